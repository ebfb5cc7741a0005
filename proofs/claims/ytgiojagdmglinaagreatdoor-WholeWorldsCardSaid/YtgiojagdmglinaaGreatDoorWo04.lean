/-
  Part 4 of a merged text.
-/
import Derived.Test.YtgiojagdmglinaaGreatDoorWo03
set_option linter.unusedVariables false
set_option linter.unusedSimpArgs false
set_option maxRecDepth 100000
namespace Go.Proofs.YtgiojagdmglinaaGreatDoor
open Go Go.RowKit
namespace Rgn
section
variable {P : Program} {ops : Array Oper} {Q : Exit → Act → World → Prop} {md : Region.Mode} {S : World → Prop}
theorem three (i j k : Nat) {oi oj ok : Oper} {ri rj rk : List Oper} {fuel : Nat} {listed : Array Bool} {a : Act} {w : World} (hi : ops.toList.drop i = oi :: ri) (hj : ops.toList.drop j = oj :: rj) (hk : ops.toList.drop k = ok :: rk) (hr : Region.ready md ops listed = [i, j, k])
  (h : ∀ K' : Act → World → Prop, Shut (∀ a w, S w → (S w → wpAnyH P md ops Q S fuel (listed.setIfInBounds i true) a w) → K' a w) → if Region.wanted oi (yielded ops a.tmps) = true then Oper.wp P oi a w K' Q else K' (a.put oi.dst undef) w)
  (h2 : ∀ K' : Act → World → Prop, Shut (∀ a w, S w → (S w → wpAnyH P md ops Q S fuel (listed.setIfInBounds j true) a w) → K' a w) → if Region.wanted oj (yielded ops a.tmps) = true then Oper.wp P oj a w K' Q else K' (a.put oj.dst undef) w)
  (h3 : ∀ K' : Act → World → Prop, Shut (∀ a w, S w → (S w → wpAnyH P md ops Q S fuel (listed.setIfInBounds k true) a w) → K' a w) → if Region.wanted ok (yielded ops a.tmps) = true then Oper.wp P ok a w K' Q else K' (a.put ok.dst undef) w) :
  wpAnyH P md ops Q S (fuel + 1) listed a w :=
 wpAnyH_ready hr (by simp) (AllReadyH.cons (at_ hi) h (AllReadyH.cons (at_ hj) h2 (AllReadyH.cons (at_ hk) h3 AllReadyH.nil)))
end
end Rgn
namespace Nb
theorem row_own {w : World} {base g cap n : Nat} {q : List Nd} (h : w.ownsRow base 60 4 (.slice (some ⟨g, 0, none⟩) n cap) n (Cl.cells q)) : base ≤ g ∧ Kit.Row w g (Cl.cells q) := by
 have hl := h.lt g rfl
 refine ⟨hl.1, hl.2, fun o u hu => ?_, fun o _ => h.frozenAt o⟩
 have hc := h.cells (g := g) rfl o u hu
 have ha : (⟨g, 0, none⟩ : Addr).add o = ⟨g, o, none⟩ := by unfold Addr.add; split <;> simp_all
 rwa [ha] at hc
def Next (x y : Wd) (g : Nat) : Prop := y.na = some ⟨g, 0, none⟩ ∧ y.pa = x.pa ∧ y.power = x.power ∧ y.nodes.length = x.n ∧ y.n = x.n
theorem power_of {x y : Wd} {w : World} {g : Nat} (ht : Whole w x.pa x.n x.power) (h : Next x y g) : Whole w y.pa y.n y.power := by
 obtain ⟨h1, h2, h3, h4, h5⟩ := h
 rw [h2, h3, h5]; exact ht
theorem nodes_of {x y : Wd} {W : World} {g : Nat} (hr : Kit.Row W g (Cl.cells y.nodes)) (h : Next x y g) : Nodes W y.na y.n y.nodes := by
 obtain ⟨h1, h2, h3, h4, h5⟩ := h
 rw [h1, h5]; exact Nodes.row_of hr h4
def Good (x y : Wd) (f0 f1 : Fr) : Prop := y.Right ∧ y.n = x.n ∧ y.tick = Wm.up x.tick Wm.mostCount ∧ Wm.Sent x.n f0 ∧ Wm.Sent x.n f1
theorem step_calls (x : Wd) (ch : Ch) (w : World) (hx : x.Right) (ht : x.There w) (hc : ch.There w) :
  Calls Tryz.prog 15 #[.agg #[.int .i64 x.n, .int .i64 x.tick, .int .i64 x.c, .int .i64 x.v, .slice x.pa x.n x.pc, .slice x.na x.n x.nc, .int .i64 (x.h0.ag 0), .int .i64 (x.h0.ag 1), .int .i64 (x.h0.ag 2), .int .i64 (x.h0.ag 3), .int .i64 (x.h0.ag 4), .int .i64 (x.h0.ag 5), .int .i64 (x.h0.ag 6), .int .i64 (x.h0.ag 7), .int .i64 x.h0.port, .int .i64 x.h0.age, .int .i64 x.h0.hold, .int .i64 x.h0.pos, .int .i64 (x.h1.ag 0), .int .i64 (x.h1.ag 1), .int .i64 (x.h1.ag 2), .int .i64 (x.h1.ag 3), .int .i64 (x.h1.ag 4), .int .i64 (x.h1.ag 5), .int .i64 (x.h1.ag 6), .int .i64 (x.h1.ag 7), .int .i64 x.h1.port, .int .i64 x.h1.age, .int .i64 x.h1.hold, .int .i64 x.h1.pos], .agg #[.string ch.b0, .string ch.b1, .slice ch.at_ ch.np ch.cap, .int .i64 ch.link]] w
   fun e w' => (∃ (y : Wd) (f0 f1 : Fr) (g cap : Nat), e = .returned (.tuple #[.agg y.cells.toArray, .agg #[.int .i64 x.tick, .int .i64 f0.k, .int .i64 f0.i, .int .i64 f1.k, .int .i64 f1.i, .slice (some ⟨g, 0, none⟩) x.n cap], .int .i64 0]) ∧ Good x y f0 f1 ∧ Next x y g ∧ w.heap.size ≤ g ∧ Kit.Row w' g (Cl.cells y.nodes)) ∧ Below w.heap.size w w' := by
 refine (Sw.step_calls x ch w hx ht hc).mono ?_
 rintro e w' ⟨g, cap, rfl, hown, hb⟩
 have hh := Sw.hubs_right hx ch
 have hr := Sw.nxt_right hx ch
 have ho := row_own hown
 have hl : (Sw.nds x ch).length = x.n := hr.nl
 exact ⟨⟨{ Sw.nxt x ch with na := some ⟨g, 0, none⟩, nc := cap }, (Sw.r0 x ch).2, (Sw.r1 x ch).2, g, cap, rfl, ⟨Sw.put_right hr (g, cap), rfl, rfl, hh.1.2, hh.2.2⟩, ⟨rfl, rfl, rfl, hl, rfl⟩, ho.1, ho.2⟩, hb⟩
theorem once {P G : Prop} (h : P → G) (p : P) : G := h p
end Nb
end Go.Proofs.YtgiojagdmglinaaGreatDoor
