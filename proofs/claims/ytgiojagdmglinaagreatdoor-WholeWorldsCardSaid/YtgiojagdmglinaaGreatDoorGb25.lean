/-
  Part 25 of a merged text.
-/
import Derived.Test.YtgiojagdmglinaaGreatDoorGb24
import Derived.Test.YtgiojagdmglinaaGreatDoorGb09
import Derived.Great.Walk
import Derived.Deep.Cut
set_option linter.unusedVariables false
set_option linter.unusedSimpArgs false
set_option maxRecDepth 100000
namespace Go.Proofs.YtgiojagdmglinaaGreatDoor
open Go.RowKit
namespace Sw
theorem sizeWorld : (Tryz.prog.info? 36).map (·.size) = some 30 := by kernel_rfl
theorem sizeLook : (Tryz.prog.info? 48).map (·.size) = some 6 := by kernel_rfl
theorem sizeChoice : (Tryz.prog.info? 53).map (·.size) = some 4 := by kernel_rfl
theorem own_sets (cs : List Value) : ∀ {w : World} {base n b o : Nat} {v : Value} {l : List Value} (_ : w.ownsRow base 60 4 v n l) (_ : b < base), (w.setCells b o cs).ownsRow base 60 4 v n l := by
 induction cs with
 | nil => intro w base n b o v l h _; exact h
 | cons c r ih => intro w base n b o v l h hb; exact ih (ownsRow_setCell_below h (a := ⟨b, o, none⟩) hb c) hb
theorem own_stored {w W : World} {base n b o : Nat} {cs : List Value} {v : Value} {l : List Value} (h : w.ownsRow base 60 4 v n l) (s : Kit.Stored w W b o cs) (hb : b < base) : W.ownsRow base 60 4 v n l := by
 unfold Kit.Stored at s; subst s; exact own_sets cs h hb
def look (x : Wd) (ch : Ch) (g cap : Nat) : List Value := [.int .i64 x.tick, .int .i64 (r0 x ch).2.k, .int .i64 (r0 x ch).2.i, .int .i64 (r1 x ch).2.k, .int .i64 (r1 x ch).2.i, .slice (some ⟨g, 0, none⟩) x.n cap]
set_option maxHeartbeats 2000000 in
theorem step_calls (x : Wd) (ch : Ch) (w : World) (hx : x.Right) (ht : x.There w) (hc : ch.There w) :
  Calls Tryz.prog 15 #[.agg #[.int .i64 x.n, .int .i64 x.tick, .int .i64 x.c, .int .i64 x.v, .slice x.pa x.n x.pc, .slice x.na x.n x.nc, .int .i64 (x.h0.ag 0), .int .i64 (x.h0.ag 1), .int .i64 (x.h0.ag 2), .int .i64 (x.h0.ag 3), .int .i64 (x.h0.ag 4), .int .i64 (x.h0.ag 5), .int .i64 (x.h0.ag 6), .int .i64 (x.h0.ag 7), .int .i64 x.h0.port, .int .i64 x.h0.age, .int .i64 x.h0.hold, .int .i64 x.h0.pos, .int .i64 (x.h1.ag 0), .int .i64 (x.h1.ag 1), .int .i64 (x.h1.ag 2), .int .i64 (x.h1.ag 3), .int .i64 (x.h1.ag 4), .int .i64 (x.h1.ag 5), .int .i64 (x.h1.ag 6), .int .i64 (x.h1.ag 7), .int .i64 x.h1.port, .int .i64 x.h1.age, .int .i64 x.h1.hold, .int .i64 x.h1.pos], .agg #[.string ch.b0, .string ch.b1, .slice ch.at_ ch.np ch.cap, .int .i64 ch.link]] w
   fun e w' => ∃ g cap, e = .returned (.tuple #[.agg ({ nxt x ch with na := some ⟨g, 0, none⟩, nc := cap } : Wd).cells.toArray, .agg (look x ch g cap).toArray, .int .i64 0]) ∧ w'.ownsRow w.heap.size 60 4 (.slice (some ⟨g, 0, none⟩) x.n cap) x.n (Cl.cells (nds x ch)) ∧ Below w.heap.size w w' := by
 have h3 := hx.lo
 have h8 := hx.hi
 have hr := hubs_right hx ch
 have kr := fun W (hW : Below w.heap.size w W) => Wr.right_calls x W hx (ht.below hW)
 have ksp := fun B i0 i1 f0 f1 W (hW : Below w.heap.size w W) (R : Kit.Row W B (Tk.cells x ch i0 i1 f0 f1)) => Tk.speak_calls B B i0 i1 x ch f0 f1 W (Nat.le_refl _) R hx (ht.nodes.below hW) hc.s0 hc.s1
 have kre := fun B k0 k1 A0 A1 f0 f1 W (R : Kit.Row W B (Tk.cells x ch (.slice A0 x.n k0) (.slice A1 x.n k1) f0 f1)) (ha : Frames W A0 x.n (in0 x ch)) (hb : Frames W A1 x.n (in1 x ch)) => Tk.relay_calls B B k0 k1 A0 A1 x ch (in0 x ch) (in1 x ch) f0 f1 W (Nat.le_refl _) R hx ha hb (Port.take_fit _ _) (Port.take_fit _ _)
 have kli := fun B i0 i1 W (hB : w.heap.size ≤ B) (hW : Below w.heap.size w W) (R : Kit.Row W B (Tk.cells { x with h0 := (r0 x ch).1, h1 := (r1 x ch).1 } ch i0 i1 (r0 x ch).2 (r1 x ch).2)) => Tk.listen_calls B B { x with h0 := (r0 x ch).1, h1 := (r1 x ch).1 } ch i0 i1 (r0 x ch).2 (r1 x ch).2 W (Nat.le_refl _) R
  (fun W2 h2 => hc.below (hW.trans (h2.mono hB))) ⟨hx.lo, hx.hi, hx.tick, hx.fault, hx.pl, hx.pw, hx.nl, hx.nd, hr.1.1, hr.2.1⟩ (fun W2 h2 => ht.power.below (hW.trans (h2.mono hB))) (ht.nodes.below hW) hr.1.2 hr.2.2
 have kup := fun W => Tal.up_calls x.tick 1073741824 W hx.tick.1 (by omega) hx.tick.2
 have KR := Lib.hid kr
 have KSP := Lib.hid ksp
 have KRE := Lib.hid kre
 have KLI := Lib.hid kli
 have KUP := Lib.hid kup
 clear kr ksp kre kli kup hr ht hc hx
 go_enter Tryz.func15, Tryz.ntmps15
 go_upto_region 1 with fail
 have q0 : Kit.Row ((((w.alloc (.cells #[.int .i64 x.n, .int .i64 x.tick, .int .i64 x.c, .int .i64 x.v, .slice x.pa x.n x.pc, .slice x.na x.n x.nc, .int .i64 (x.h0.ag 0), .int .i64 (x.h0.ag 1), .int .i64 (x.h0.ag 2), .int .i64 (x.h0.ag 3), .int .i64 (x.h0.ag 4), .int .i64 (x.h0.ag 5), .int .i64 (x.h0.ag 6), .int .i64 (x.h0.ag 7), .int .i64 x.h0.port, .int .i64 x.h0.age, .int .i64 x.h0.hold, .int .i64 x.h0.pos, .int .i64 (x.h1.ag 0), .int .i64 (x.h1.ag 1), .int .i64 (x.h1.ag 2), .int .i64 (x.h1.ag 3), .int .i64 (x.h1.ag 4), .int .i64 (x.h1.ag 5), .int .i64 (x.h1.ag 6), .int .i64 (x.h1.ag 7), .int .i64 x.h1.port, .int .i64 x.h1.age, .int .i64 x.h1.hold, .int .i64 x.h1.pos] 36)).alloc (.cells #[.string ch.b0, .string ch.b1, .slice ch.at_ ch.np ch.cap, .int .i64 ch.link] 53)).alloc (.cells #[.int .i64 0, .int .i64 0, .int .i64 0, .int .i64 0, .slice none 0 0, .slice none 0 0, .int .i64 0, .int .i64 0, .int .i64 0, .int .i64 0, .int .i64 0, .int .i64 0, .int .i64 0, .int .i64 0, .int .i64 0, .int .i64 0, .int .i64 0, .int .i64 0, .int .i64 0, .int .i64 0, .int .i64 0, .int .i64 0, .int .i64 0, .int .i64 0, .int .i64 0, .int .i64 0, .int .i64 0, .int .i64 0, .int .i64 0, .int .i64 0] 36)).alloc (.cells #[.int .i64 0, .int .i64 0, .int .i64 0, .int .i64 0, .int .i64 0, .slice none 0 0] 48)) (w.heap.size) [.int .i64 x.n, .int .i64 x.tick, .int .i64 x.c, .int .i64 x.v, .slice x.pa x.n x.pc, .slice x.na x.n x.nc, .int .i64 (x.h0.ag 0), .int .i64 (x.h0.ag 1), .int .i64 (x.h0.ag 2), .int .i64 (x.h0.ag 3), .int .i64 (x.h0.ag 4), .int .i64 (x.h0.ag 5), .int .i64 (x.h0.ag 6), .int .i64 (x.h0.ag 7), .int .i64 x.h0.port, .int .i64 x.h0.age, .int .i64 x.h0.hold, .int .i64 x.h0.pos, .int .i64 (x.h1.ag 0), .int .i64 (x.h1.ag 1), .int .i64 (x.h1.ag 2), .int .i64 (x.h1.ag 3), .int .i64 (x.h1.ag 4), .int .i64 (x.h1.ag 5), .int .i64 (x.h1.ag 6), .int .i64 (x.h1.ag 7), .int .i64 x.h1.port, .int .i64 x.h1.age, .int .i64 x.h1.hold, .int .i64 x.h1.pos] := ((((Kit.Row.new w _ _).alloc _).alloc _).alloc _)
 have q1 : Kit.Row ((((w.alloc (.cells #[.int .i64 x.n, .int .i64 x.tick, .int .i64 x.c, .int .i64 x.v, .slice x.pa x.n x.pc, .slice x.na x.n x.nc, .int .i64 (x.h0.ag 0), .int .i64 (x.h0.ag 1), .int .i64 (x.h0.ag 2), .int .i64 (x.h0.ag 3), .int .i64 (x.h0.ag 4), .int .i64 (x.h0.ag 5), .int .i64 (x.h0.ag 6), .int .i64 (x.h0.ag 7), .int .i64 x.h0.port, .int .i64 x.h0.age, .int .i64 x.h0.hold, .int .i64 x.h0.pos, .int .i64 (x.h1.ag 0), .int .i64 (x.h1.ag 1), .int .i64 (x.h1.ag 2), .int .i64 (x.h1.ag 3), .int .i64 (x.h1.ag 4), .int .i64 (x.h1.ag 5), .int .i64 (x.h1.ag 6), .int .i64 (x.h1.ag 7), .int .i64 x.h1.port, .int .i64 x.h1.age, .int .i64 x.h1.hold, .int .i64 x.h1.pos] 36)).alloc (.cells #[.string ch.b0, .string ch.b1, .slice ch.at_ ch.np ch.cap, .int .i64 ch.link] 53)).alloc (.cells #[.int .i64 0, .int .i64 0, .int .i64 0, .int .i64 0, .slice none 0 0, .slice none 0 0, .int .i64 0, .int .i64 0, .int .i64 0, .int .i64 0, .int .i64 0, .int .i64 0, .int .i64 0, .int .i64 0, .int .i64 0, .int .i64 0, .int .i64 0, .int .i64 0, .int .i64 0, .int .i64 0, .int .i64 0, .int .i64 0, .int .i64 0, .int .i64 0, .int .i64 0, .int .i64 0, .int .i64 0, .int .i64 0, .int .i64 0, .int .i64 0] 36)).alloc (.cells #[.int .i64 0, .int .i64 0, .int .i64 0, .int .i64 0, .int .i64 0, .slice none 0 0] 48)) (w.heap.size + 1) [.string ch.b0, .string ch.b1, .slice ch.at_ ch.np ch.cap, .int .i64 ch.link] := (((Kit.Row.newAt _ _ _ _ (by simp)).alloc _).alloc _)
 have q2 : Kit.Row ((((w.alloc (.cells #[.int .i64 x.n, .int .i64 x.tick, .int .i64 x.c, .int .i64 x.v, .slice x.pa x.n x.pc, .slice x.na x.n x.nc, .int .i64 (x.h0.ag 0), .int .i64 (x.h0.ag 1), .int .i64 (x.h0.ag 2), .int .i64 (x.h0.ag 3), .int .i64 (x.h0.ag 4), .int .i64 (x.h0.ag 5), .int .i64 (x.h0.ag 6), .int .i64 (x.h0.ag 7), .int .i64 x.h0.port, .int .i64 x.h0.age, .int .i64 x.h0.hold, .int .i64 x.h0.pos, .int .i64 (x.h1.ag 0), .int .i64 (x.h1.ag 1), .int .i64 (x.h1.ag 2), .int .i64 (x.h1.ag 3), .int .i64 (x.h1.ag 4), .int .i64 (x.h1.ag 5), .int .i64 (x.h1.ag 6), .int .i64 (x.h1.ag 7), .int .i64 x.h1.port, .int .i64 x.h1.age, .int .i64 x.h1.hold, .int .i64 x.h1.pos] 36)).alloc (.cells #[.string ch.b0, .string ch.b1, .slice ch.at_ ch.np ch.cap, .int .i64 ch.link] 53)).alloc (.cells #[.int .i64 0, .int .i64 0, .int .i64 0, .int .i64 0, .slice none 0 0, .slice none 0 0, .int .i64 0, .int .i64 0, .int .i64 0, .int .i64 0, .int .i64 0, .int .i64 0, .int .i64 0, .int .i64 0, .int .i64 0, .int .i64 0, .int .i64 0, .int .i64 0, .int .i64 0, .int .i64 0, .int .i64 0, .int .i64 0, .int .i64 0, .int .i64 0, .int .i64 0, .int .i64 0, .int .i64 0, .int .i64 0, .int .i64 0, .int .i64 0] 36)).alloc (.cells #[.int .i64 0, .int .i64 0, .int .i64 0, .int .i64 0, .int .i64 0, .slice none 0 0] 48)) (w.heap.size + 1 + 1) [.int .i64 0, .int .i64 0, .int .i64 0, .int .i64 0, .slice none 0 0, .slice none 0 0, .int .i64 0, .int .i64 0, .int .i64 0, .int .i64 0, .int .i64 0, .int .i64 0, .int .i64 0, .int .i64 0, .int .i64 0, .int .i64 0, .int .i64 0, .int .i64 0, .int .i64 0, .int .i64 0, .int .i64 0, .int .i64 0, .int .i64 0, .int .i64 0, .int .i64 0, .int .i64 0, .int .i64 0, .int .i64 0, .int .i64 0, .int .i64 0] := ((Kit.Row.newAt _ _ _ _ (by simp)).alloc _)
 have q3 : Kit.Row ((((w.alloc (.cells #[.int .i64 x.n, .int .i64 x.tick, .int .i64 x.c, .int .i64 x.v, .slice x.pa x.n x.pc, .slice x.na x.n x.nc, .int .i64 (x.h0.ag 0), .int .i64 (x.h0.ag 1), .int .i64 (x.h0.ag 2), .int .i64 (x.h0.ag 3), .int .i64 (x.h0.ag 4), .int .i64 (x.h0.ag 5), .int .i64 (x.h0.ag 6), .int .i64 (x.h0.ag 7), .int .i64 x.h0.port, .int .i64 x.h0.age, .int .i64 x.h0.hold, .int .i64 x.h0.pos, .int .i64 (x.h1.ag 0), .int .i64 (x.h1.ag 1), .int .i64 (x.h1.ag 2), .int .i64 (x.h1.ag 3), .int .i64 (x.h1.ag 4), .int .i64 (x.h1.ag 5), .int .i64 (x.h1.ag 6), .int .i64 (x.h1.ag 7), .int .i64 x.h1.port, .int .i64 x.h1.age, .int .i64 x.h1.hold, .int .i64 x.h1.pos] 36)).alloc (.cells #[.string ch.b0, .string ch.b1, .slice ch.at_ ch.np ch.cap, .int .i64 ch.link] 53)).alloc (.cells #[.int .i64 0, .int .i64 0, .int .i64 0, .int .i64 0, .slice none 0 0, .slice none 0 0, .int .i64 0, .int .i64 0, .int .i64 0, .int .i64 0, .int .i64 0, .int .i64 0, .int .i64 0, .int .i64 0, .int .i64 0, .int .i64 0, .int .i64 0, .int .i64 0, .int .i64 0, .int .i64 0, .int .i64 0, .int .i64 0, .int .i64 0, .int .i64 0, .int .i64 0, .int .i64 0, .int .i64 0, .int .i64 0, .int .i64 0, .int .i64 0] 36)).alloc (.cells #[.int .i64 0, .int .i64 0, .int .i64 0, .int .i64 0, .int .i64 0, .slice none 0 0] 48)) (w.heap.size + 1 + 1 + 1) [.int .i64 0, .int .i64 0, .int .i64 0, .int .i64 0, .int .i64 0, .slice none 0 0] := (Kit.Row.newAt _ _ _ _ (by simp))
 have qb : Below w.heap.size w ((((w.alloc (.cells #[.int .i64 x.n, .int .i64 x.tick, .int .i64 x.c, .int .i64 x.v, .slice x.pa x.n x.pc, .slice x.na x.n x.nc, .int .i64 (x.h0.ag 0), .int .i64 (x.h0.ag 1), .int .i64 (x.h0.ag 2), .int .i64 (x.h0.ag 3), .int .i64 (x.h0.ag 4), .int .i64 (x.h0.ag 5), .int .i64 (x.h0.ag 6), .int .i64 (x.h0.ag 7), .int .i64 x.h0.port, .int .i64 x.h0.age, .int .i64 x.h0.hold, .int .i64 x.h0.pos, .int .i64 (x.h1.ag 0), .int .i64 (x.h1.ag 1), .int .i64 (x.h1.ag 2), .int .i64 (x.h1.ag 3), .int .i64 (x.h1.ag 4), .int .i64 (x.h1.ag 5), .int .i64 (x.h1.ag 6), .int .i64 (x.h1.ag 7), .int .i64 x.h1.port, .int .i64 x.h1.age, .int .i64 x.h1.hold, .int .i64 x.h1.pos] 36)).alloc (.cells #[.string ch.b0, .string ch.b1, .slice ch.at_ ch.np ch.cap, .int .i64 ch.link] 53)).alloc (.cells #[.int .i64 0, .int .i64 0, .int .i64 0, .int .i64 0, .slice none 0 0, .slice none 0 0, .int .i64 0, .int .i64 0, .int .i64 0, .int .i64 0, .int .i64 0, .int .i64 0, .int .i64 0, .int .i64 0, .int .i64 0, .int .i64 0, .int .i64 0, .int .i64 0, .int .i64 0, .int .i64 0, .int .i64 0, .int .i64 0, .int .i64 0, .int .i64 0, .int .i64 0, .int .i64 0, .int .i64 0, .int .i64 0, .int .i64 0, .int .i64 0] 36)).alloc (.cells #[.int .i64 0, .int .i64 0, .int .i64 0, .int .i64 0, .int .i64 0, .slice none 0 0] 48)) := (((((Below.refl _ _).alloc (Nat.le_refl _) _).alloc (by simp) _).alloc (by simp; omega) _).alloc (by simp; omega) _)
 generalize ((((w.alloc (.cells #[.int .i64 x.n, .int .i64 x.tick, .int .i64 x.c, .int .i64 x.v, .slice x.pa x.n x.pc, .slice x.na x.n x.nc, .int .i64 (x.h0.ag 0), .int .i64 (x.h0.ag 1), .int .i64 (x.h0.ag 2), .int .i64 (x.h0.ag 3), .int .i64 (x.h0.ag 4), .int .i64 (x.h0.ag 5), .int .i64 (x.h0.ag 6), .int .i64 (x.h0.ag 7), .int .i64 x.h0.port, .int .i64 x.h0.age, .int .i64 x.h0.hold, .int .i64 x.h0.pos, .int .i64 (x.h1.ag 0), .int .i64 (x.h1.ag 1), .int .i64 (x.h1.ag 2), .int .i64 (x.h1.ag 3), .int .i64 (x.h1.ag 4), .int .i64 (x.h1.ag 5), .int .i64 (x.h1.ag 6), .int .i64 (x.h1.ag 7), .int .i64 x.h1.port, .int .i64 x.h1.age, .int .i64 x.h1.hold, .int .i64 x.h1.pos] 36)).alloc (.cells #[.string ch.b0, .string ch.b1, .slice ch.at_ ch.np ch.cap, .int .i64 ch.link] 53)).alloc (.cells #[.int .i64 0, .int .i64 0, .int .i64 0, .int .i64 0, .slice none 0 0, .slice none 0 0, .int .i64 0, .int .i64 0, .int .i64 0, .int .i64 0, .int .i64 0, .int .i64 0, .int .i64 0, .int .i64 0, .int .i64 0, .int .i64 0, .int .i64 0, .int .i64 0, .int .i64 0, .int .i64 0, .int .i64 0, .int .i64 0, .int .i64 0, .int .i64 0, .int .i64 0, .int .i64 0, .int .i64 0, .int .i64 0, .int .i64 0, .int .i64 0] 36)).alloc (.cells #[.int .i64 0, .int .i64 0, .int .i64 0, .int .i64 0, .int .i64 0, .slice none 0 0] 48)) = w2 at *
 have R0 := Lib.hid q0
 have R1 := Lib.hid q1
 have R2 := Lib.hid q2
 have R3 := Lib.hid q3
 have HB := Lib.hid qb
 clear q0 q1 q2 q3 qb
 go_step
 refine Kit.wpList_load_row rfl 36 (.tmp 2) rfl w.heap.size 0 rfl R0.out [.int .i64 x.n, .int .i64 x.tick, .int .i64 x.c, .int .i64 x.v, .slice x.pa x.n x.pc, .slice x.na x.n x.nc, .int .i64 (x.h0.ag 0), .int .i64 (x.h0.ag 1), .int .i64 (x.h0.ag 2), .int .i64 (x.h0.ag 3), .int .i64 (x.h0.ag 4), .int .i64 (x.h0.ag 5), .int .i64 (x.h0.ag 6), .int .i64 (x.h0.ag 7), .int .i64 x.h0.port, .int .i64 x.h0.age, .int .i64 x.h0.hold, .int .i64 x.h0.pos, .int .i64 (x.h1.ag 0), .int .i64 (x.h1.ag 1), .int .i64 (x.h1.ag 2), .int .i64 (x.h1.ag 3), .int .i64 (x.h1.ag 4), .int .i64 (x.h1.ag 5), .int .i64 (x.h1.ag 6), .int .i64 (x.h1.ag 7), .int .i64 x.h1.port, .int .i64 x.h1.age, .int .i64 x.h1.hold, .int .i64 x.h1.pos] rfl _ Tryz.underlying36 rfl sizeWorld ?_
 go_wp2_with fail
 refine (KR.out _ HB.out).mono ?_
 rintro e w1 ⟨rfl, b1⟩
 have S0 := Lib.hid (R0.out.below b1)
 have S1 := Lib.hid (R1.out.below b1)
 have S2 := Lib.hid (R2.out.below b1)
 have S3 := Lib.hid (R3.out.below b1)
 replace HB := Lib.hid (HB.out.trans (b1.mono HB.out.size))
 clear b1 R0 R1 R2 R3
 dsimp only
 go_upto_region 3 with fail
 go_step
 refine Kit.wpList_load_row rfl 36 (.tmp 2) rfl w.heap.size 0 rfl S0.out [.int .i64 x.n, .int .i64 x.tick, .int .i64 x.c, .int .i64 x.v, .slice x.pa x.n x.pc, .slice x.na x.n x.nc, .int .i64 (x.h0.ag 0), .int .i64 (x.h0.ag 1), .int .i64 (x.h0.ag 2), .int .i64 (x.h0.ag 3), .int .i64 (x.h0.ag 4), .int .i64 (x.h0.ag 5), .int .i64 (x.h0.ag 6), .int .i64 (x.h0.ag 7), .int .i64 x.h0.port, .int .i64 x.h0.age, .int .i64 x.h0.hold, .int .i64 x.h0.pos, .int .i64 (x.h1.ag 0), .int .i64 (x.h1.ag 1), .int .i64 (x.h1.ag 2), .int .i64 (x.h1.ag 3), .int .i64 (x.h1.ag 4), .int .i64 (x.h1.ag 5), .int .i64 (x.h1.ag 6), .int .i64 (x.h1.ag 7), .int .i64 x.h1.port, .int .i64 x.h1.age, .int .i64 x.h1.hold, .int .i64 x.h1.pos] rfl _ Tryz.underlying36 rfl sizeWorld ?_
 have a0 := S1.out.at_ 0 (.string ch.b0) rfl
 have a1 := S1.out.at_ 1 (.string ch.b1) rfl
 have a2 := S1.out.at_ 2 (.slice ch.at_ ch.np ch.cap) rfl
 have a3 := S1.out.at_ 3 (.int .i64 ch.link) rfl
 have lt3 := S3.out.lt
 have hz1 := HB.out.size
 go_wp2_with fail
 clear a0 a1 a2 a3
 have TB := Lib.hid ((Kit.Row.newAt w1 #[.int .i64 x.n, .int .i64 x.tick, .int .i64 x.c, .int .i64 x.v, .slice x.pa x.n x.pc, .slice x.na x.n x.nc, .int .i64 (x.h0.ag 0), .int .i64 (x.h0.ag 1), .int .i64 (x.h0.ag 2), .int .i64 (x.h0.ag 3), .int .i64 (x.h0.ag 4), .int .i64 (x.h0.ag 5), .int .i64 (x.h0.ag 6), .int .i64 (x.h0.ag 7), .int .i64 x.h0.port, .int .i64 x.h0.age, .int .i64 x.h0.hold, .int .i64 x.h0.pos, .int .i64 (x.h1.ag 0), .int .i64 (x.h1.ag 1), .int .i64 (x.h1.ag 2), .int .i64 (x.h1.ag 3), .int .i64 (x.h1.ag 4), .int .i64 (x.h1.ag 5), .int .i64 (x.h1.ag 6), .int .i64 (x.h1.ag 7), .int .i64 x.h1.port, .int .i64 x.h1.age, .int .i64 x.h1.hold, .int .i64 x.h1.pos, .string ch.b0, .string ch.b1, .slice ch.at_ ch.np ch.cap, .int .i64 ch.link, .slice none 0 0, .slice none 0 0, .int .i64 0, .int .i64 0, .int .i64 0, .int .i64 0] 82 w1.heap.size rfl).cast (show _ = Tk.cells x ch (.slice none 0 0) (.slice none 0 0) Fr.none Fr.none from rfl))
 have T0 := Lib.hid (S0.out.alloc (.cells #[.int .i64 x.n, .int .i64 x.tick, .int .i64 x.c, .int .i64 x.v, .slice x.pa x.n x.pc, .slice x.na x.n x.nc, .int .i64 (x.h0.ag 0), .int .i64 (x.h0.ag 1), .int .i64 (x.h0.ag 2), .int .i64 (x.h0.ag 3), .int .i64 (x.h0.ag 4), .int .i64 (x.h0.ag 5), .int .i64 (x.h0.ag 6), .int .i64 (x.h0.ag 7), .int .i64 x.h0.port, .int .i64 x.h0.age, .int .i64 x.h0.hold, .int .i64 x.h0.pos, .int .i64 (x.h1.ag 0), .int .i64 (x.h1.ag 1), .int .i64 (x.h1.ag 2), .int .i64 (x.h1.ag 3), .int .i64 (x.h1.ag 4), .int .i64 (x.h1.ag 5), .int .i64 (x.h1.ag 6), .int .i64 (x.h1.ag 7), .int .i64 x.h1.port, .int .i64 x.h1.age, .int .i64 x.h1.hold, .int .i64 x.h1.pos, .string ch.b0, .string ch.b1, .slice ch.at_ ch.np ch.cap, .int .i64 ch.link, .slice none 0 0, .slice none 0 0, .int .i64 0, .int .i64 0, .int .i64 0, .int .i64 0] 82))
 have T2 := Lib.hid (S2.out.alloc (.cells #[.int .i64 x.n, .int .i64 x.tick, .int .i64 x.c, .int .i64 x.v, .slice x.pa x.n x.pc, .slice x.na x.n x.nc, .int .i64 (x.h0.ag 0), .int .i64 (x.h0.ag 1), .int .i64 (x.h0.ag 2), .int .i64 (x.h0.ag 3), .int .i64 (x.h0.ag 4), .int .i64 (x.h0.ag 5), .int .i64 (x.h0.ag 6), .int .i64 (x.h0.ag 7), .int .i64 x.h0.port, .int .i64 x.h0.age, .int .i64 x.h0.hold, .int .i64 x.h0.pos, .int .i64 (x.h1.ag 0), .int .i64 (x.h1.ag 1), .int .i64 (x.h1.ag 2), .int .i64 (x.h1.ag 3), .int .i64 (x.h1.ag 4), .int .i64 (x.h1.ag 5), .int .i64 (x.h1.ag 6), .int .i64 (x.h1.ag 7), .int .i64 x.h1.port, .int .i64 x.h1.age, .int .i64 x.h1.hold, .int .i64 x.h1.pos, .string ch.b0, .string ch.b1, .slice ch.at_ ch.np ch.cap, .int .i64 ch.link, .slice none 0 0, .slice none 0 0, .int .i64 0, .int .i64 0, .int .i64 0, .int .i64 0] 82))
 have T3 := Lib.hid (S3.out.alloc (.cells #[.int .i64 x.n, .int .i64 x.tick, .int .i64 x.c, .int .i64 x.v, .slice x.pa x.n x.pc, .slice x.na x.n x.nc, .int .i64 (x.h0.ag 0), .int .i64 (x.h0.ag 1), .int .i64 (x.h0.ag 2), .int .i64 (x.h0.ag 3), .int .i64 (x.h0.ag 4), .int .i64 (x.h0.ag 5), .int .i64 (x.h0.ag 6), .int .i64 (x.h0.ag 7), .int .i64 x.h0.port, .int .i64 x.h0.age, .int .i64 x.h0.hold, .int .i64 x.h0.pos, .int .i64 (x.h1.ag 0), .int .i64 (x.h1.ag 1), .int .i64 (x.h1.ag 2), .int .i64 (x.h1.ag 3), .int .i64 (x.h1.ag 4), .int .i64 (x.h1.ag 5), .int .i64 (x.h1.ag 6), .int .i64 (x.h1.ag 7), .int .i64 x.h1.port, .int .i64 x.h1.age, .int .i64 x.h1.hold, .int .i64 x.h1.pos, .string ch.b0, .string ch.b1, .slice ch.at_ ch.np ch.cap, .int .i64 ch.link, .slice none 0 0, .slice none 0 0, .int .i64 0, .int .i64 0, .int .i64 0, .int .i64 0] 82))
 replace HB := Lib.hid (HB.out.alloc hz1 (.cells #[.int .i64 x.n, .int .i64 x.tick, .int .i64 x.c, .int .i64 x.v, .slice x.pa x.n x.pc, .slice x.na x.n x.nc, .int .i64 (x.h0.ag 0), .int .i64 (x.h0.ag 1), .int .i64 (x.h0.ag 2), .int .i64 (x.h0.ag 3), .int .i64 (x.h0.ag 4), .int .i64 (x.h0.ag 5), .int .i64 (x.h0.ag 6), .int .i64 (x.h0.ag 7), .int .i64 x.h0.port, .int .i64 x.h0.age, .int .i64 x.h0.hold, .int .i64 x.h0.pos, .int .i64 (x.h1.ag 0), .int .i64 (x.h1.ag 1), .int .i64 (x.h1.ag 2), .int .i64 (x.h1.ag 3), .int .i64 (x.h1.ag 4), .int .i64 (x.h1.ag 5), .int .i64 (x.h1.ag 6), .int .i64 (x.h1.ag 7), .int .i64 x.h1.port, .int .i64 x.h1.age, .int .i64 x.h1.hold, .int .i64 x.h1.pos, .string ch.b0, .string ch.b1, .slice ch.at_ ch.np ch.cap, .int .i64 ch.link, .slice none 0 0, .slice none 0 0, .int .i64 0, .int .i64 0, .int .i64 0, .int .i64 0] 82))
 clear S0 S1 S2 S3
 generalize w1.alloc (.cells #[.int .i64 x.n, .int .i64 x.tick, .int .i64 x.c, .int .i64 x.v, .slice x.pa x.n x.pc, .slice x.na x.n x.nc, .int .i64 (x.h0.ag 0), .int .i64 (x.h0.ag 1), .int .i64 (x.h0.ag 2), .int .i64 (x.h0.ag 3), .int .i64 (x.h0.ag 4), .int .i64 (x.h0.ag 5), .int .i64 (x.h0.ag 6), .int .i64 (x.h0.ag 7), .int .i64 x.h0.port, .int .i64 x.h0.age, .int .i64 x.h0.hold, .int .i64 x.h0.pos, .int .i64 (x.h1.ag 0), .int .i64 (x.h1.ag 1), .int .i64 (x.h1.ag 2), .int .i64 (x.h1.ag 3), .int .i64 (x.h1.ag 4), .int .i64 (x.h1.ag 5), .int .i64 (x.h1.ag 6), .int .i64 (x.h1.ag 7), .int .i64 x.h1.port, .int .i64 x.h1.age, .int .i64 x.h1.hold, .int .i64 x.h1.pos, .string ch.b0, .string ch.b1, .slice ch.at_ ch.np ch.cap, .int .i64 ch.link, .slice none 0 0, .slice none 0 0, .int .i64 0, .int .i64 0, .int .i64 0, .int .i64 0] 82) = wa at *
 generalize w1.heap.size = B at *
 refine (KSP.out B _ _ _ _ _ HB.out TB.out).mono ?_
 rintro e w4 ⟨rfl, A0, A1, j0, j1, rb, fa, fb, b4⟩
 replace TB := Lib.hid rb
 have FA := Lib.hid fa
 have FB := Lib.hid fb
 replace T0 := Lib.hid (T0.out.kept b4 (by omega))
 replace T2 := Lib.hid (T2.out.kept b4 (by omega))
 replace T3 := Lib.hid (T3.out.kept b4 (by omega))
 replace HB := Lib.hid (HB.out.trans (b4.mono hz1))
 clear rb fa fb b4
 go_wp2_with fail
 refine (KRE.out B j0 j1 A0 A1 _ _ _ TB.out FA.out FB.out).mono ?_
 rintro e w5 ⟨rfl, rb, b5⟩
 replace TB := Lib.hid rb
 replace T0 := Lib.hid (T0.out.kept b5 (by omega))
 replace T2 := Lib.hid (T2.out.kept b5 (by omega))
 replace T3 := Lib.hid (T3.out.kept b5 (by omega))
 replace HB := Lib.hid (HB.out.trans (b5.mono hz1))
 clear rb b5 FA FB
 go_wp2_with fail
 refine (KLI.out B _ _ _ hz1 HB.out TB.out).mono ?_
 rintro e w6 ⟨rfl, g, cap, rb, hn, b6⟩
 replace TB := Lib.hid rb
 have TN := Lib.hid hn
 replace T0 := Lib.hid (T0.out.kept b6 (by omega))
 replace T2 := Lib.hid (T2.out.kept b6 (by omega))
 replace T3 := Lib.hid (T3.out.kept b6 (by omega))
 replace HB := Lib.hid (HB.out.trans (b6.mono hz1))
 clear rb b6 hn
 have f1 := T0.out.at_ 1 (.int .i64 x.tick) rfl
 have c1 := TB.out.at_ 1 (.int .i64 x.tick) rfl
 have z1 := TB.out.free 1 (by simp [Tk.cells])
 go_wp2_with fail
 refine (KUP.out _).mono ?_
 rintro e w7 ⟨rfl, rfl⟩
 go_wp2_with fail
 clear c1 z1 f1
 replace TB : Hid (Kit.Row _ B [.int .i64 x.n, .int .i64 (Wm.up x.tick 1073741824), .int .i64 x.c, .int .i64 x.v, .slice x.pa x.n x.pc, .slice (some ⟨g, 0, none⟩) x.n cap, .int .i64 ((r0 x ch).1.ag 0), .int .i64 ((r0 x ch).1.ag 1), .int .i64 ((r0 x ch).1.ag 2), .int .i64 ((r0 x ch).1.ag 3), .int .i64 ((r0 x ch).1.ag 4), .int .i64 ((r0 x ch).1.ag 5), .int .i64 ((r0 x ch).1.ag 6), .int .i64 ((r0 x ch).1.ag 7), .int .i64 ((r0 x ch).1.port), .int .i64 ((r0 x ch).1.age), .int .i64 ((r0 x ch).1.hold), .int .i64 ((r0 x ch).1.pos), .int .i64 ((r1 x ch).1.ag 0), .int .i64 ((r1 x ch).1.ag 1), .int .i64 ((r1 x ch).1.ag 2), .int .i64 ((r1 x ch).1.ag 3), .int .i64 ((r1 x ch).1.ag 4), .int .i64 ((r1 x ch).1.ag 5), .int .i64 ((r1 x ch).1.ag 6), .int .i64 ((r1 x ch).1.ag 7), .int .i64 ((r1 x ch).1.port), .int .i64 ((r1 x ch).1.age), .int .i64 ((r1 x ch).1.hold), .int .i64 ((r1 x ch).1.pos), .string ch.b0, .string ch.b1, .slice ch.at_ ch.np ch.cap, .int .i64 ch.link, .slice A0 x.n j0, .slice A1 x.n j1, .int .i64 (r0 x ch).2.k, .int .i64 (r0 x ch).2.i, .int .i64 (r1 x ch).2.k, .int .i64 (r1 x ch).2.i]) := Lib.hid ((TB.out.set 1 (.int .i64 (Wm.up x.tick 1073741824)) (by simp [Tk.cells])).cast rfl)
 replace TN := Lib.hid (ownsRow_setCell_below TN.out (a := ⟨B, 1, none⟩) (Nat.lt_succ_self _) (.int .i64 (Wm.up x.tick 1073741824)))
 replace T0 := Lib.hid (T0.out.far B 1 (.int .i64 (Wm.up x.tick 1073741824)) (by omega))
 replace T2 := Lib.hid (T2.out.far B 1 (.int .i64 (Wm.up x.tick 1073741824)) (by omega))
 replace T3 := Lib.hid (T3.out.far B 1 (.int .i64 (Wm.up x.tick 1073741824)) (by omega))
 replace HB : Hid (Below w.heap.size w (w6.setCell ⟨B, 1, none⟩ (.int .i64 (Wm.up x.tick 1073741824)))) := Lib.hid (HB.out.setCell hz1 _)
 generalize w6.setCell ⟨B, 1, none⟩ (.int .i64 (Wm.up x.tick 1073741824)) = w8 at *
 have f1 := T0.out.at_ 1 (.int .i64 x.tick) rfl
 have f5 := TB.out.at_ 5 (.slice (some ⟨g, 0, none⟩) x.n cap) rfl
 replace TB := Lib.hid TB.out.drew
 replace TN := Lib.hid TN.out.drew
 replace T0 := Lib.hid T0.out.drew
 replace T2 := Lib.hid T2.out.drew
 replace T3 := Lib.hid T3.out.drew
 replace HB := Lib.hid HB.out.drew
 refine wp_region_held_drew (S := (fun w' => w'.cell? ⟨w.heap.size, 1, none⟩ = some (.int .i64 x.tick) ∧ w'.cell? ⟨B, 5, none⟩ = some (.slice (some ⟨g, 0, none⟩) x.n cap))) (by kernel_rfl) ?_ (fun hHeld => ?_)
 ·go_keep
 refine Rgn.tk 0 rfl ?_
 try simp only [Act.put, Rgn.a, Rgn.b, Rgn.c]
 refine Rgn.tk 1 rfl ?_
 try simp only [Act.put, Rgn.a, Rgn.b, Rgn.c]
 refine Rgn.tk 2 rfl ?_
 try simp only [Act.put, Rgn.a, Rgn.b, Rgn.c]
 refine Rgn.tk 4 rfl ?_
 try simp only [Act.put, Rgn.a, Rgn.b, Rgn.c]
 refine Rgn.tk 5 rfl ?_
 try simp only [Act.put, Rgn.a, Rgn.b, Rgn.c]
 refine Rgn.tk 6 rfl ?_
 try simp only [Act.put, Rgn.a, Rgn.b, Rgn.c]
 refine Rgn.tk 7 rfl ?_
 try simp only [Act.put, Rgn.a, Rgn.b, Rgn.c]
 refine Rgn.tk 8 rfl ?_
 try simp only [Act.put, Rgn.a, Rgn.b, Rgn.c]
 refine Rgn.tk 10 rfl ?_
 try simp only [Act.put, Rgn.a, Rgn.b, Rgn.c]
 refine Rgn.tk 11 rfl ?_
 try simp only [Act.put, Rgn.a, Rgn.b, Rgn.c]
 refine Rgn.tk 12 rfl ?_
 try simp only [Act.put, Rgn.a, Rgn.b, Rgn.c]
 refine Rgn.tk 13 rfl ?_
 try simp only [Act.put, Rgn.a, Rgn.b, Rgn.c]
 refine Rgn.tk 14 rfl ?_
 try simp only [Act.put, Rgn.a, Rgn.b, Rgn.c]
 refine Rgn.two 3 9 rfl rfl (by kernel_rfl) (fun K hK => ?_) (fun K hK => ?_)
 ·rw [if_pos (by kernel_rfl)]
  refine Kit.wp_load_row 36 (.tmp 32) rfl B 0 rfl TB.out [.int .i64 x.n, .int .i64 (Wm.up x.tick 1073741824), .int .i64 x.c, .int .i64 x.v, .slice x.pa x.n x.pc, .slice (some ⟨g, 0, none⟩) x.n cap, .int .i64 ((r0 x ch).1.ag 0), .int .i64 ((r0 x ch).1.ag 1), .int .i64 ((r0 x ch).1.ag 2), .int .i64 ((r0 x ch).1.ag 3), .int .i64 ((r0 x ch).1.ag 4), .int .i64 ((r0 x ch).1.ag 5), .int .i64 ((r0 x ch).1.ag 6), .int .i64 ((r0 x ch).1.ag 7), .int .i64 ((r0 x ch).1.port), .int .i64 ((r0 x ch).1.age), .int .i64 ((r0 x ch).1.hold), .int .i64 ((r0 x ch).1.pos), .int .i64 ((r1 x ch).1.ag 0), .int .i64 ((r1 x ch).1.ag 1), .int .i64 ((r1 x ch).1.ag 2), .int .i64 ((r1 x ch).1.ag 3), .int .i64 ((r1 x ch).1.ag 4), .int .i64 ((r1 x ch).1.ag 5), .int .i64 ((r1 x ch).1.ag 6), .int .i64 ((r1 x ch).1.ag 7), .int .i64 ((r1 x ch).1.port), .int .i64 ((r1 x ch).1.age), .int .i64 ((r1 x ch).1.hold), .int .i64 ((r1 x ch).1.pos)] rfl _ Tryz.underlying36 rfl sizeWorld ?_
  refine hK.out _ _ ?_ (fun hHeld => ?_)
  ·first | go_keep | ((try dsimp only); (repeat' apply And.intro) <;> first | assumption | go_simp)
  clear hK K
  try simp only [Act.put, Rgn.a, Rgn.b, Rgn.c]
  refine Rgn.two 9 16 rfl rfl (by kernel_rfl) (fun K hK => ?_) (fun K hK => ?_)
  ·rw [if_pos (by kernel_rfl)]
   refine Kit.wp_load_row 46 (.tmp 38) rfl B 36 rfl TB.out [.int .i64 (r0 x ch).2.k, .int .i64 (r0 x ch).2.i, .int .i64 (r1 x ch).2.k, .int .i64 (r1 x ch).2.i] rfl _ Tryz.underlying46 rfl Link.sizeFrs ?_
   refine hK.out _ _ ?_ (fun hHeld => ?_)
   ·first | go_keep | ((try dsimp only); (repeat' apply And.intro) <;> first | assumption | go_simp)
   clear hK K
   try simp only [Act.put, Rgn.a, Rgn.b, Rgn.c]
   refine Rgn.tk 15 rfl ?_
   try simp only [Act.put, Rgn.a, Rgn.b, Rgn.c]
   refine Rgn.one 16 rfl (by kernel_rfl) (fun K hK => ?_)
   rw [if_pos (by kernel_rfl)]
   refine Kit.wp_store_row 36 (.tmp 4) (.tmp 33) rfl (w.heap.size + 1 + 1) 0 #[.int .i64 x.n, .int .i64 (Wm.up x.tick 1073741824), .int .i64 x.c, .int .i64 x.v, .slice x.pa x.n x.pc, .slice (some ⟨g, 0, none⟩) x.n cap, .int .i64 ((r0 x ch).1.ag 0), .int .i64 ((r0 x ch).1.ag 1), .int .i64 ((r0 x ch).1.ag 2), .int .i64 ((r0 x ch).1.ag 3), .int .i64 ((r0 x ch).1.ag 4), .int .i64 ((r0 x ch).1.ag 5), .int .i64 ((r0 x ch).1.ag 6), .int .i64 ((r0 x ch).1.ag 7), .int .i64 ((r0 x ch).1.port), .int .i64 ((r0 x ch).1.age), .int .i64 ((r0 x ch).1.hold), .int .i64 ((r0 x ch).1.pos), .int .i64 ((r1 x ch).1.ag 0), .int .i64 ((r1 x ch).1.ag 1), .int .i64 ((r1 x ch).1.ag 2), .int .i64 ((r1 x ch).1.ag 3), .int .i64 ((r1 x ch).1.ag 4), .int .i64 ((r1 x ch).1.ag 5), .int .i64 ((r1 x ch).1.ag 6), .int .i64 ((r1 x ch).1.ag 7), .int .i64 ((r1 x ch).1.port), .int .i64 ((r1 x ch).1.age), .int .i64 ((r1 x ch).1.hold), .int .i64 ((r1 x ch).1.pos)] rfl rfl T2.out (by simp) sizeWorld (by first | rfl | (simp [Value.oneCell']; done) | decide) ?_
   intro W hW
   replace T0 := Lib.hid (T0.out.off hW (by omega))
   replace T2 := Lib.hid ((T2.out.all hW rfl))
   replace T3 := Lib.hid (T3.out.off hW (by omega))
   replace TB := Lib.hid (TB.out.off hW (by omega))
   replace TN := Lib.hid (own_stored TN.out hW (by omega))
   replace HB := Lib.hid (Kit.below_of HB.out hW (by omega))
   clear hW f1 f5
   have f1 := T0.out.at_ 1 (.int .i64 x.tick) rfl
   have f5 := TB.out.at_ 5 (.slice (some ⟨g, 0, none⟩) x.n cap) rfl
   refine hK.out _ _ ?_ (fun hHeld => ?_)
   ·first | go_keep | ((try dsimp only); (repeat' apply And.intro) <;> first | assumption | go_simp)
   clear hK K
   try simp only [Act.put, Rgn.a, Rgn.b, Rgn.c]
   refine Rgn.one 17 rfl (by kernel_rfl) (fun K hK => ?_)
   rw [if_pos (by kernel_rfl)]
   refine Kit.wp_store_row 48 (.tmp 5) (.tmp 45) rfl (w.heap.size + 1 + 1 + 1) 0 #[.int .i64 x.tick, .int .i64 (r0 x ch).2.k, .int .i64 (r0 x ch).2.i, .int .i64 (r1 x ch).2.k, .int .i64 (r1 x ch).2.i, .slice (some ⟨g, 0, none⟩) x.n cap] rfl rfl T3.out (by simp) sizeLook (by first | rfl | (simp [Value.oneCell']; done) | decide) ?_
   intro W hW
   replace T0 := Lib.hid (T0.out.off hW (by omega))
   replace T2 := Lib.hid (T2.out.off hW (by omega))
   replace T3 := Lib.hid ((T3.out.all hW rfl))
   replace TB := Lib.hid (TB.out.off hW (by omega))
   replace TN := Lib.hid (own_stored TN.out hW (by omega))
   replace HB := Lib.hid (Kit.below_of HB.out hW (by omega))
   clear hW f1 f5
   have f1 := T0.out.at_ 1 (.int .i64 x.tick) rfl
   have f5 := TB.out.at_ 5 (.slice (some ⟨g, 0, none⟩) x.n cap) rfl
   refine hK.out _ _ ?_ (fun hHeld => ?_)
   ·first | go_keep | ((try dsimp only); (repeat' apply And.intro) <;> first | assumption | go_simp)
   clear hK K
   try simp only [Act.put, Rgn.a, Rgn.b, Rgn.c]
   refine Rgn.tk 18 rfl ?_
   try simp only [Act.put, Rgn.a, Rgn.b, Rgn.c]
   refine wpAnyH_done (by kernel_rfl) ?_ _
   go_wp2_with fail
   exact bodyPost_ret (Kit.res_cct Tryz.results15 _ _ (Kit.Var.mk' T2.out Tryz.underlying36 rfl sizeWorld) (Kit.Var.mk' T3.out Tryz.underlying48 rfl sizeLook)) rfl ⟨g, cap, rfl, Kit.own_weaken TN.out (by omega), HB.out⟩
  ·rw [if_pos (by kernel_rfl)]
   refine Kit.wp_store_row 36 (.tmp 4) (.tmp 33) rfl (w.heap.size + 1 + 1) 0 #[.int .i64 x.n, .int .i64 (Wm.up x.tick 1073741824), .int .i64 x.c, .int .i64 x.v, .slice x.pa x.n x.pc, .slice (some ⟨g, 0, none⟩) x.n cap, .int .i64 ((r0 x ch).1.ag 0), .int .i64 ((r0 x ch).1.ag 1), .int .i64 ((r0 x ch).1.ag 2), .int .i64 ((r0 x ch).1.ag 3), .int .i64 ((r0 x ch).1.ag 4), .int .i64 ((r0 x ch).1.ag 5), .int .i64 ((r0 x ch).1.ag 6), .int .i64 ((r0 x ch).1.ag 7), .int .i64 ((r0 x ch).1.port), .int .i64 ((r0 x ch).1.age), .int .i64 ((r0 x ch).1.hold), .int .i64 ((r0 x ch).1.pos), .int .i64 ((r1 x ch).1.ag 0), .int .i64 ((r1 x ch).1.ag 1), .int .i64 ((r1 x ch).1.ag 2), .int .i64 ((r1 x ch).1.ag 3), .int .i64 ((r1 x ch).1.ag 4), .int .i64 ((r1 x ch).1.ag 5), .int .i64 ((r1 x ch).1.ag 6), .int .i64 ((r1 x ch).1.ag 7), .int .i64 ((r1 x ch).1.port), .int .i64 ((r1 x ch).1.age), .int .i64 ((r1 x ch).1.hold), .int .i64 ((r1 x ch).1.pos)] rfl rfl T2.out (by simp) sizeWorld (by first | rfl | (simp [Value.oneCell']; done) | decide) ?_
   intro W hW
   replace T0 := Lib.hid (T0.out.off hW (by omega))
   replace T2 := Lib.hid ((T2.out.all hW rfl))
   replace T3 := Lib.hid (T3.out.off hW (by omega))
   replace TB := Lib.hid (TB.out.off hW (by omega))
   replace TN := Lib.hid (own_stored TN.out hW (by omega))
   replace HB := Lib.hid (Kit.below_of HB.out hW (by omega))
   clear hW f1 f5
   have f1 := T0.out.at_ 1 (.int .i64 x.tick) rfl
   have f5 := TB.out.at_ 5 (.slice (some ⟨g, 0, none⟩) x.n cap) rfl
   refine hK.out _ _ ?_ (fun hHeld => ?_)
   ·first | go_keep | ((try dsimp only); (repeat' apply And.intro) <;> first | assumption | go_simp)
   clear hK K
   try simp only [Act.put, Rgn.a, Rgn.b, Rgn.c]
   refine Rgn.one 9 rfl (by kernel_rfl) (fun K hK => ?_)
   rw [if_pos (by kernel_rfl)]
   refine Kit.wp_load_row 46 (.tmp 38) rfl B 36 rfl TB.out [.int .i64 (r0 x ch).2.k, .int .i64 (r0 x ch).2.i, .int .i64 (r1 x ch).2.k, .int .i64 (r1 x ch).2.i] rfl _ Tryz.underlying46 rfl Link.sizeFrs ?_
   refine hK.out _ _ ?_ (fun hHeld => ?_)
   ·first | go_keep | ((try dsimp only); (repeat' apply And.intro) <;> first | assumption | go_simp)
   clear hK K
   try simp only [Act.put, Rgn.a, Rgn.b, Rgn.c]
   refine Rgn.tk 15 rfl ?_
   try simp only [Act.put, Rgn.a, Rgn.b, Rgn.c]
   refine Rgn.one 17 rfl (by kernel_rfl) (fun K hK => ?_)
   rw [if_pos (by kernel_rfl)]
   refine Kit.wp_store_row 48 (.tmp 5) (.tmp 45) rfl (w.heap.size + 1 + 1 + 1) 0 #[.int .i64 x.tick, .int .i64 (r0 x ch).2.k, .int .i64 (r0 x ch).2.i, .int .i64 (r1 x ch).2.k, .int .i64 (r1 x ch).2.i, .slice (some ⟨g, 0, none⟩) x.n cap] rfl rfl T3.out (by simp) sizeLook (by first | rfl | (simp [Value.oneCell']; done) | decide) ?_
   intro W hW
   replace T0 := Lib.hid (T0.out.off hW (by omega))
   replace T2 := Lib.hid (T2.out.off hW (by omega))
   replace T3 := Lib.hid ((T3.out.all hW rfl))
   replace TB := Lib.hid (TB.out.off hW (by omega))
   replace TN := Lib.hid (own_stored TN.out hW (by omega))
   replace HB := Lib.hid (Kit.below_of HB.out hW (by omega))
   clear hW f1 f5
   have f1 := T0.out.at_ 1 (.int .i64 x.tick) rfl
   have f5 := TB.out.at_ 5 (.slice (some ⟨g, 0, none⟩) x.n cap) rfl
   refine hK.out _ _ ?_ (fun hHeld => ?_)
   ·first | go_keep | ((try dsimp only); (repeat' apply And.intro) <;> first | assumption | go_simp)
   clear hK K
   try simp only [Act.put, Rgn.a, Rgn.b, Rgn.c]
   refine Rgn.tk 18 rfl ?_
   try simp only [Act.put, Rgn.a, Rgn.b, Rgn.c]
   refine wpAnyH_done (by kernel_rfl) ?_ _
   go_wp2_with fail
   exact bodyPost_ret (Kit.res_cct Tryz.results15 _ _ (Kit.Var.mk' T2.out Tryz.underlying36 rfl sizeWorld) (Kit.Var.mk' T3.out Tryz.underlying48 rfl sizeLook)) rfl ⟨g, cap, rfl, Kit.own_weaken TN.out (by omega), HB.out⟩
 ·rw [if_pos (by kernel_rfl)]
  refine Kit.wp_load_row 46 (.tmp 38) rfl B 36 rfl TB.out [.int .i64 (r0 x ch).2.k, .int .i64 (r0 x ch).2.i, .int .i64 (r1 x ch).2.k, .int .i64 (r1 x ch).2.i] rfl _ Tryz.underlying46 rfl Link.sizeFrs ?_
  refine hK.out _ _ ?_ (fun hHeld => ?_)
  ·first | go_keep | ((try dsimp only); (repeat' apply And.intro) <;> first | assumption | go_simp)
  clear hK K
  try simp only [Act.put, Rgn.a, Rgn.b, Rgn.c]
  refine Rgn.tk 15 rfl ?_
  try simp only [Act.put, Rgn.a, Rgn.b, Rgn.c]
  refine Rgn.one 3 rfl (by kernel_rfl) (fun K hK => ?_)
  rw [if_pos (by kernel_rfl)]
  refine Kit.wp_load_row 36 (.tmp 32) rfl B 0 rfl TB.out [.int .i64 x.n, .int .i64 (Wm.up x.tick 1073741824), .int .i64 x.c, .int .i64 x.v, .slice x.pa x.n x.pc, .slice (some ⟨g, 0, none⟩) x.n cap, .int .i64 ((r0 x ch).1.ag 0), .int .i64 ((r0 x ch).1.ag 1), .int .i64 ((r0 x ch).1.ag 2), .int .i64 ((r0 x ch).1.ag 3), .int .i64 ((r0 x ch).1.ag 4), .int .i64 ((r0 x ch).1.ag 5), .int .i64 ((r0 x ch).1.ag 6), .int .i64 ((r0 x ch).1.ag 7), .int .i64 ((r0 x ch).1.port), .int .i64 ((r0 x ch).1.age), .int .i64 ((r0 x ch).1.hold), .int .i64 ((r0 x ch).1.pos), .int .i64 ((r1 x ch).1.ag 0), .int .i64 ((r1 x ch).1.ag 1), .int .i64 ((r1 x ch).1.ag 2), .int .i64 ((r1 x ch).1.ag 3), .int .i64 ((r1 x ch).1.ag 4), .int .i64 ((r1 x ch).1.ag 5), .int .i64 ((r1 x ch).1.ag 6), .int .i64 ((r1 x ch).1.ag 7), .int .i64 ((r1 x ch).1.port), .int .i64 ((r1 x ch).1.age), .int .i64 ((r1 x ch).1.hold), .int .i64 ((r1 x ch).1.pos)] rfl _ Tryz.underlying36 rfl sizeWorld ?_
  refine hK.out _ _ ?_ (fun hHeld => ?_)
  ·first | go_keep | ((try dsimp only); (repeat' apply And.intro) <;> first | assumption | go_simp)
  clear hK K
  try simp only [Act.put, Rgn.a, Rgn.b, Rgn.c]
  refine Rgn.one 16 rfl (by kernel_rfl) (fun K hK => ?_)
  rw [if_pos (by kernel_rfl)]
  refine Kit.wp_store_row 36 (.tmp 4) (.tmp 33) rfl (w.heap.size + 1 + 1) 0 #[.int .i64 x.n, .int .i64 (Wm.up x.tick 1073741824), .int .i64 x.c, .int .i64 x.v, .slice x.pa x.n x.pc, .slice (some ⟨g, 0, none⟩) x.n cap, .int .i64 ((r0 x ch).1.ag 0), .int .i64 ((r0 x ch).1.ag 1), .int .i64 ((r0 x ch).1.ag 2), .int .i64 ((r0 x ch).1.ag 3), .int .i64 ((r0 x ch).1.ag 4), .int .i64 ((r0 x ch).1.ag 5), .int .i64 ((r0 x ch).1.ag 6), .int .i64 ((r0 x ch).1.ag 7), .int .i64 ((r0 x ch).1.port), .int .i64 ((r0 x ch).1.age), .int .i64 ((r0 x ch).1.hold), .int .i64 ((r0 x ch).1.pos), .int .i64 ((r1 x ch).1.ag 0), .int .i64 ((r1 x ch).1.ag 1), .int .i64 ((r1 x ch).1.ag 2), .int .i64 ((r1 x ch).1.ag 3), .int .i64 ((r1 x ch).1.ag 4), .int .i64 ((r1 x ch).1.ag 5), .int .i64 ((r1 x ch).1.ag 6), .int .i64 ((r1 x ch).1.ag 7), .int .i64 ((r1 x ch).1.port), .int .i64 ((r1 x ch).1.age), .int .i64 ((r1 x ch).1.hold), .int .i64 ((r1 x ch).1.pos)] rfl rfl T2.out (by simp) sizeWorld (by first | rfl | (simp [Value.oneCell']; done) | decide) ?_
  intro W hW
  replace T0 := Lib.hid (T0.out.off hW (by omega))
  replace T2 := Lib.hid ((T2.out.all hW rfl))
  replace T3 := Lib.hid (T3.out.off hW (by omega))
  replace TB := Lib.hid (TB.out.off hW (by omega))
  replace TN := Lib.hid (own_stored TN.out hW (by omega))
  replace HB := Lib.hid (Kit.below_of HB.out hW (by omega))
  clear hW f1 f5
  have f1 := T0.out.at_ 1 (.int .i64 x.tick) rfl
  have f5 := TB.out.at_ 5 (.slice (some ⟨g, 0, none⟩) x.n cap) rfl
  refine hK.out _ _ ?_ (fun hHeld => ?_)
  ·first | go_keep | ((try dsimp only); (repeat' apply And.intro) <;> first | assumption | go_simp)
  clear hK K
  try simp only [Act.put, Rgn.a, Rgn.b, Rgn.c]
  refine Rgn.one 17 rfl (by kernel_rfl) (fun K hK => ?_)
  rw [if_pos (by kernel_rfl)]
  refine Kit.wp_store_row 48 (.tmp 5) (.tmp 45) rfl (w.heap.size + 1 + 1 + 1) 0 #[.int .i64 x.tick, .int .i64 (r0 x ch).2.k, .int .i64 (r0 x ch).2.i, .int .i64 (r1 x ch).2.k, .int .i64 (r1 x ch).2.i, .slice (some ⟨g, 0, none⟩) x.n cap] rfl rfl T3.out (by simp) sizeLook (by first | rfl | (simp [Value.oneCell']; done) | decide) ?_
  intro W hW
  replace T0 := Lib.hid (T0.out.off hW (by omega))
  replace T2 := Lib.hid (T2.out.off hW (by omega))
  replace T3 := Lib.hid ((T3.out.all hW rfl))
  replace TB := Lib.hid (TB.out.off hW (by omega))
  replace TN := Lib.hid (own_stored TN.out hW (by omega))
  replace HB := Lib.hid (Kit.below_of HB.out hW (by omega))
  clear hW f1 f5
  have f1 := T0.out.at_ 1 (.int .i64 x.tick) rfl
  have f5 := TB.out.at_ 5 (.slice (some ⟨g, 0, none⟩) x.n cap) rfl
  refine hK.out _ _ ?_ (fun hHeld => ?_)
  ·first | go_keep | ((try dsimp only); (repeat' apply And.intro) <;> first | assumption | go_simp)
  clear hK K
  try simp only [Act.put, Rgn.a, Rgn.b, Rgn.c]
  refine Rgn.tk 18 rfl ?_
  try simp only [Act.put, Rgn.a, Rgn.b, Rgn.c]
  refine wpAnyH_done (by kernel_rfl) ?_ _
  go_wp2_with fail
  exact bodyPost_ret (Kit.res_cct Tryz.results15 _ _ (Kit.Var.mk' T2.out Tryz.underlying36 rfl sizeWorld) (Kit.Var.mk' T3.out Tryz.underlying48 rfl sizeLook)) rfl ⟨g, cap, rfl, Kit.own_weaken TN.out (by omega), HB.out⟩
end Sw
end Go.Proofs.YtgiojagdmglinaaGreatDoor
