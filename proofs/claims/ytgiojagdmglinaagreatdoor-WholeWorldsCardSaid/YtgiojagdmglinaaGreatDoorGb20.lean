/-
  Part 20 of a merged text.
-/
import Derived.Test.YtgiojagdmglinaaGreatDoorGb19
import Derived.Test.YtgiojagdmglinaaGreatDoorGb00
set_option linter.unusedVariables false
set_option linter.unusedSimpArgs false
set_option maxRecDepth 100000
namespace Go.Proofs.YtgiojagdmglinaaGreatDoor
open Go.RowKit Vote
namespace Link
def Spared (w w' : World) (lo hi : Nat) : Prop := w.heap.size ≤ w'.heap.size ∧ ∀ b, b < w.heap.size → (b < lo ∨ hi ≤ b) → ∀ o, w'.cell? ⟨b, o, none⟩ = w.cell? ⟨b, o, none⟩
theorem Spared.refl (w : World) (lo hi : Nat) : Spared w w lo hi := ⟨Nat.le_refl _, fun _ _ _ _ => rfl⟩
theorem Spared.below {w w1 w2 : World} {lo hi : Nat} (h : Spared w w1 lo hi) (hb : Below w1.heap.size w1 w2) : Spared w w2 lo hi :=
 ⟨Nat.le_trans h.1 hb.size, fun b hbw hbl o => (hb.cell (p := ⟨b, o, none⟩) (Nat.lt_of_lt_of_le hbw h.1)).trans (h.2 b hbw hbl o)⟩
theorem Spared.set {w w1 : World} {lo hi b2 o2 : Nat} {v : Value} (h : Spared w w1 lo hi) (h1 : w.heap.size ≤ b2 ∨ (lo ≤ b2 ∧ b2 < hi)) : Spared w (w1.setCell ⟨b2, o2, none⟩ v) lo hi :=
 ⟨by simpa using h.1, fun b hbw hbl o => by
  rw [World.cell?_setCell_other w1 _ _ _ (by intro e2; injection e2 with e3; omega)]
  exact h.2 b hbw hbl o⟩
theorem Spared.sets (vs : List Value) : ∀ {w w1 : World} {lo hi b2 : Nat} (_ : Spared w w1 lo hi) (_ : w.heap.size ≤ b2 ∨ (lo ≤ b2 ∧ b2 < hi)) (o2 : Nat), Spared w (w1.setCells b2 o2 vs) lo hi := by
 induction vs with
 | nil => intro w w1 lo hi b2 h _ o2; exact h
 | cons v r ih => intro w w1 lo hi b2 h h1 o2; exact ih (h.set h1) h1 (o2 + 1)
theorem Spared.on {w w1 w2 : World} {lo hi b2 o2 : Nat} {cs : List Value} (h : Spared w w1 lo hi) (s : Kit.Stored w1 w2 b2 o2 cs) (h1 : w.heap.size ≤ b2 ∨ (lo ≤ b2 ∧ b2 < hi)) : Spared w w2 lo hi := by
 unfold Kit.Stored at s; subst s; exact h.sets cs h1 o2
theorem _root_.Go.Proofs.YtgiojagdmglinaaGreatDoor.Frames.spared {w w' : World} {lo hi n : Nat} {A : Option Addr} {l : List Fr} (h : Frames w A n l) (s : Spared w w' lo hi) (ha : ∀ b o, A = some ⟨b, o, none⟩ → b < lo ∨ hi ≤ b) : Frames w' A n l where
 len := Lies.len h
 at_ := fun hn => by
  obtain ⟨b, off, e, hlt, hc⟩ := Lies.at_ h hn
  exact ⟨b, off, e, Nat.lt_of_lt_of_le hlt s.1, fun j c hj i v hi' => (s.2 b hlt (ha b off e) _).trans (hc j c hj i v hi')⟩
theorem sizeHub : (Tryz.prog.info? 28).map (·.size) = some 12 := by kernel_rfl
theorem sizeHubs : (Tryz.prog.info? 29).map (·.size) = some 24 := by kernel_rfl
theorem sizeFrs : (Tryz.prog.info? 46).map (·.size) = some 4 := by kernel_rfl
theorem ih0 (a0 a1 a2 a3 a4 a5 a6 a7 a8 a9 a10 a11 a12 a13 a14 a15 a16 a17 a18 a19 a20 a21 a22 a23 : Value) (w : World) : (Instr.index 29 (.agg #[a0, a1, a2, a3, a4, a5, a6, a7, a8, a9, a10, a11, a12, a13, a14, a15, a16, a17, a18, a19, a20, a21, a22, a23]) (.int .i64 0)).run Tryz.prog w = .ok (.agg #[a0, a1, a2, a3, a4, a5, a6, a7, a8, a9, a10, a11]) w := by kernel_rfl
theorem ih1 (a0 a1 a2 a3 a4 a5 a6 a7 a8 a9 a10 a11 a12 a13 a14 a15 a16 a17 a18 a19 a20 a21 a22 a23 : Value) (w : World) : (Instr.index 29 (.agg #[a0, a1, a2, a3, a4, a5, a6, a7, a8, a9, a10, a11, a12, a13, a14, a15, a16, a17, a18, a19, a20, a21, a22, a23]) (.int .i64 1)).run Tryz.prog w = .ok (.agg #[a12, a13, a14, a15, a16, a17, a18, a19, a20, a21, a22, a23]) w := by kernel_rfl
theorem ii0 (a b : Value) (w : World) : (Instr.index 80 (.agg #[a, b]) (.int .i64 0)).run Tryz.prog w = .ok a w := by kernel_rfl
theorem ii1 (a b : Value) (w : World) : (Instr.index 80 (.agg #[a, b]) (.int .i64 1)).run Tryz.prog w = .ok b w := by kernel_rfl
theorem is0 (a0 a1 a2 a3 a4 a5 a6 a7 a8 a9 a10 a11 a12 a13 a14 a15 a16 a17 a18 a19 a20 a21 a22 a23 a24 a25 : Value) (w : World) : (Instr.index 142 (.agg #[a0, a1, a2, a3, a4, a5, a6, a7, a8, a9, a10, a11, a12, a13, a14, a15, a16, a17, a18, a19, a20, a21, a22, a23, a24, a25]) (.int .i64 0)).run Tryz.prog w = .ok (.agg #[a0, a1, a2, a3, a4, a5, a6, a7, a8, a9, a10, a11, a12]) w := by kernel_rfl
theorem is1 (a0 a1 a2 a3 a4 a5 a6 a7 a8 a9 a10 a11 a12 a13 a14 a15 a16 a17 a18 a19 a20 a21 a22 a23 a24 a25 : Value) (w : World) : (Instr.index 142 (.agg #[a0, a1, a2, a3, a4, a5, a6, a7, a8, a9, a10, a11, a12, a13, a14, a15, a16, a17, a18, a19, a20, a21, a22, a23, a24, a25]) (.int .i64 1)).run Tryz.prog w = .ok (.agg #[a13, a14, a15, a16, a17, a18, a19, a20, a21, a22, a23, a24, a25]) w := by kernel_rfl
set_option maxHeartbeats 1500000 in
theorem step_calls (n k0 k1 : Nat) (A0 A1 : Option Addr) (h0 h1 : Hb) (a b : List Fr) (d0 d1 : Bool) (w : World) (h3 : 3 ≤ n) (h8 : n ≤ 8) (r0 : Wm.Right n h0) (r1 : Wm.Right n h1) (ha : Frames w A0 n a) (hb : Frames w A1 n b) (fa : Wm.Fit n a) (fb : Wm.Fit n b) :
  Calls Tryz.prog 69 #[.int .i64 n, .agg #[.int .i64 (h0.ag 0), .int .i64 (h0.ag 1), .int .i64 (h0.ag 2), .int .i64 (h0.ag 3), .int .i64 (h0.ag 4), .int .i64 (h0.ag 5), .int .i64 (h0.ag 6), .int .i64 (h0.ag 7), .int .i64 h0.port, .int .i64 h0.age, .int .i64 h0.hold, .int .i64 h0.pos, .int .i64 (h1.ag 0), .int .i64 (h1.ag 1), .int .i64 (h1.ag 2), .int .i64 (h1.ag 3), .int .i64 (h1.ag 4), .int .i64 (h1.ag 5), .int .i64 (h1.ag 6), .int .i64 (h1.ag 7), .int .i64 h1.port, .int .i64 h1.age, .int .i64 h1.hold, .int .i64 h1.pos], .agg #[.slice A0 n k0, .slice A1 n k1], .agg #[.bool d0, .bool d1]] w fun e w' =>
   e = .returned (.tuple #[.agg #[.int .i64 ((Wm.hub n h0 (l0 d1 a b)).1.ag 0), .int .i64 ((Wm.hub n h0 (l0 d1 a b)).1.ag 1), .int .i64 ((Wm.hub n h0 (l0 d1 a b)).1.ag 2), .int .i64 ((Wm.hub n h0 (l0 d1 a b)).1.ag 3), .int .i64 ((Wm.hub n h0 (l0 d1 a b)).1.ag 4), .int .i64 ((Wm.hub n h0 (l0 d1 a b)).1.ag 5), .int .i64 ((Wm.hub n h0 (l0 d1 a b)).1.ag 6), .int .i64 ((Wm.hub n h0 (l0 d1 a b)).1.ag 7), .int .i64 ((Wm.hub n h0 (l0 d1 a b)).1.port), .int .i64 ((Wm.hub n h0 (l0 d1 a b)).1.age), .int .i64 ((Wm.hub n h0 (l0 d1 a b)).1.hold), .int .i64 ((Wm.hub n h0 (l0 d1 a b)).1.pos), .int .i64 ((Wm.hub n (hs d0 h0 h1) (l1 d0 a b)).1.ag 0), .int .i64 ((Wm.hub n (hs d0 h0 h1) (l1 d0 a b)).1.ag 1), .int .i64 ((Wm.hub n (hs d0 h0 h1) (l1 d0 a b)).1.ag 2), .int .i64 ((Wm.hub n (hs d0 h0 h1) (l1 d0 a b)).1.ag 3), .int .i64 ((Wm.hub n (hs d0 h0 h1) (l1 d0 a b)).1.ag 4), .int .i64 ((Wm.hub n (hs d0 h0 h1) (l1 d0 a b)).1.ag 5), .int .i64 ((Wm.hub n (hs d0 h0 h1) (l1 d0 a b)).1.ag 6), .int .i64 ((Wm.hub n (hs d0 h0 h1) (l1 d0 a b)).1.ag 7), .int .i64 ((Wm.hub n (hs d0 h0 h1) (l1 d0 a b)).1.port), .int .i64 ((Wm.hub n (hs d0 h0 h1) (l1 d0 a b)).1.age), .int .i64 ((Wm.hub n (hs d0 h0 h1) (l1 d0 a b)).1.hold), .int .i64 ((Wm.hub n (hs d0 h0 h1) (l1 d0 a b)).1.pos)], .agg #[.int .i64 (Wm.hub n h0 (l0 d1 a b)).2.k, .int .i64 (Wm.hub n h0 (l0 d1 a b)).2.i, .int .i64 (Wm.hub n (hs d0 h0 h1) (l1 d0 a b)).2.k, .int .i64 (Wm.hub n (hs d0 h0 h1) (l1 d0 a b)).2.i], .int .i64 0]) ∧ Below w.heap.size w w' := by
 have fit0 : Wm.Fit n (l0 d1 a b) := by unfold l0; split; exact Port.both_fit fa fb; exact fa
 have fit1 : Wm.Fit n (l1 d0 a b) := by unfold l1; split; exact Port.both_fit fa fb; exact fb
 have rh : Wm.Right n (hs d0 h0 h1) := by unfold hs; split; exact r0; exact r1
 have kr0 := fun W => right_calls n h0 W h3 h8 r0
 have kr1 := fun W => right_calls n h1 W h3 h8 r1
 have kf0 := fun W (hW : Below w.heap.size w W) => Gate.fits_calls n k0 A0 a W h3 h8 (ha.below hW) fa
 have kf1 := fun W (hW : Below w.heap.size w W) => Gate.fits_calls n k1 A1 b W h3 h8 (hb.below hW) fb
 have ks := fun W (hW : Below w.heap.size w W) => sides_calls n k0 k1 A0 A1 h0 h1 a b d0 d1 W h3 h8 (ha.below hW) (hb.below hW)
 have kh0 := fun W A c hl => Hub.step_calls n c A h0 (l0 d1 a b) W h3 h8 r0 hl fit0
 have kh1 := fun W A c hl => Hub.step_calls n c A (hs d0 h0 h1) (l1 d0 a b) W h3 h8 rh hl fit1
 obtain ⟨⟨g0, f0⟩, e0⟩ : ∃ y, y = Wm.hub n h0 (l0 d1 a b) := ⟨_, rfl⟩
 obtain ⟨⟨g1, f1⟩, e1⟩ : ∃ y, y = Wm.hub n (hs d0 h0 h1) (l1 d0 a b) := ⟨_, rfl⟩
 rw [← e0] at kh0 ⊢
 rw [← e1] at kh1 ⊢
 unfold Hb.val Fr.val at *
 unfold Sides at ks
 simp only at kh0 kh1 ⊢
 have FA := Lib.hid ha
 have FB := Lib.hid hb
 have KR0 := Lib.hid kr0
 have KR1 := Lib.hid kr1
 have KF0 := Lib.hid kf0
 have KF1 := Lib.hid kf1
 have KS := Lib.hid ks
 have KG0 := Lib.hid kh0
 have KG1 := Lib.hid kh1
 have ih0' := @ih0
 have ih1' := @ih1
 have ii0' := @ii0
 have ii1' := @ii1
 have is0' := @is0
 have is1' := @is1
 clear kr0 kr1 kf0 kf1 ks kh0 kh1 r0 r1 rh fit0 fit1 ha hb fa fb e0 e1
 generalize l0 d1 a b = la at *
 generalize l1 d0 a b = lb at *
 go_enter Tryz.func69, Tryz.ntmps69
 go_upto_region 1 with fail
 have q0 : Kit.Row (((((w.alloc (.cells #[.int .i64 (h0.ag 0), .int .i64 (h0.ag 1), .int .i64 (h0.ag 2), .int .i64 (h0.ag 3), .int .i64 (h0.ag 4), .int .i64 (h0.ag 5), .int .i64 (h0.ag 6), .int .i64 (h0.ag 7), .int .i64 h0.port, .int .i64 h0.age, .int .i64 h0.hold, .int .i64 h0.pos, .int .i64 (h1.ag 0), .int .i64 (h1.ag 1), .int .i64 (h1.ag 2), .int .i64 (h1.ag 3), .int .i64 (h1.ag 4), .int .i64 (h1.ag 5), .int .i64 (h1.ag 6), .int .i64 (h1.ag 7), .int .i64 h1.port, .int .i64 h1.age, .int .i64 h1.hold, .int .i64 h1.pos] 29)).alloc (.cells #[.slice A0 n k0, .slice A1 n k1] 80)).alloc (.cells #[.bool d0, .bool d1] 116)).alloc (.cells #[.int .i64 0, .int .i64 0, .int .i64 0, .int .i64 0, .int .i64 0, .int .i64 0, .int .i64 0, .int .i64 0, .int .i64 0, .int .i64 0, .int .i64 0, .int .i64 0, .int .i64 0, .int .i64 0, .int .i64 0, .int .i64 0, .int .i64 0, .int .i64 0, .int .i64 0, .int .i64 0, .int .i64 0, .int .i64 0, .int .i64 0, .int .i64 0] 29)).alloc (.cells #[.int .i64 0, .int .i64 0, .int .i64 0, .int .i64 0] 46)) (w.heap.size) [.int .i64 (h0.ag 0), .int .i64 (h0.ag 1), .int .i64 (h0.ag 2), .int .i64 (h0.ag 3), .int .i64 (h0.ag 4), .int .i64 (h0.ag 5), .int .i64 (h0.ag 6), .int .i64 (h0.ag 7), .int .i64 h0.port, .int .i64 h0.age, .int .i64 h0.hold, .int .i64 h0.pos, .int .i64 (h1.ag 0), .int .i64 (h1.ag 1), .int .i64 (h1.ag 2), .int .i64 (h1.ag 3), .int .i64 (h1.ag 4), .int .i64 (h1.ag 5), .int .i64 (h1.ag 6), .int .i64 (h1.ag 7), .int .i64 h1.port, .int .i64 h1.age, .int .i64 h1.hold, .int .i64 h1.pos] := (((((Kit.Row.new w _ _).alloc _).alloc _).alloc _).alloc _)
 have q1 : Kit.Row (((((w.alloc (.cells #[.int .i64 (h0.ag 0), .int .i64 (h0.ag 1), .int .i64 (h0.ag 2), .int .i64 (h0.ag 3), .int .i64 (h0.ag 4), .int .i64 (h0.ag 5), .int .i64 (h0.ag 6), .int .i64 (h0.ag 7), .int .i64 h0.port, .int .i64 h0.age, .int .i64 h0.hold, .int .i64 h0.pos, .int .i64 (h1.ag 0), .int .i64 (h1.ag 1), .int .i64 (h1.ag 2), .int .i64 (h1.ag 3), .int .i64 (h1.ag 4), .int .i64 (h1.ag 5), .int .i64 (h1.ag 6), .int .i64 (h1.ag 7), .int .i64 h1.port, .int .i64 h1.age, .int .i64 h1.hold, .int .i64 h1.pos] 29)).alloc (.cells #[.slice A0 n k0, .slice A1 n k1] 80)).alloc (.cells #[.bool d0, .bool d1] 116)).alloc (.cells #[.int .i64 0, .int .i64 0, .int .i64 0, .int .i64 0, .int .i64 0, .int .i64 0, .int .i64 0, .int .i64 0, .int .i64 0, .int .i64 0, .int .i64 0, .int .i64 0, .int .i64 0, .int .i64 0, .int .i64 0, .int .i64 0, .int .i64 0, .int .i64 0, .int .i64 0, .int .i64 0, .int .i64 0, .int .i64 0, .int .i64 0, .int .i64 0] 29)).alloc (.cells #[.int .i64 0, .int .i64 0, .int .i64 0, .int .i64 0] 46)) (w.heap.size + 1) [.slice A0 n k0, .slice A1 n k1] := ((((Kit.Row.newAt _ _ _ _ (by simp)).alloc _).alloc _).alloc _)
 have q2 : Kit.Row (((((w.alloc (.cells #[.int .i64 (h0.ag 0), .int .i64 (h0.ag 1), .int .i64 (h0.ag 2), .int .i64 (h0.ag 3), .int .i64 (h0.ag 4), .int .i64 (h0.ag 5), .int .i64 (h0.ag 6), .int .i64 (h0.ag 7), .int .i64 h0.port, .int .i64 h0.age, .int .i64 h0.hold, .int .i64 h0.pos, .int .i64 (h1.ag 0), .int .i64 (h1.ag 1), .int .i64 (h1.ag 2), .int .i64 (h1.ag 3), .int .i64 (h1.ag 4), .int .i64 (h1.ag 5), .int .i64 (h1.ag 6), .int .i64 (h1.ag 7), .int .i64 h1.port, .int .i64 h1.age, .int .i64 h1.hold, .int .i64 h1.pos] 29)).alloc (.cells #[.slice A0 n k0, .slice A1 n k1] 80)).alloc (.cells #[.bool d0, .bool d1] 116)).alloc (.cells #[.int .i64 0, .int .i64 0, .int .i64 0, .int .i64 0, .int .i64 0, .int .i64 0, .int .i64 0, .int .i64 0, .int .i64 0, .int .i64 0, .int .i64 0, .int .i64 0, .int .i64 0, .int .i64 0, .int .i64 0, .int .i64 0, .int .i64 0, .int .i64 0, .int .i64 0, .int .i64 0, .int .i64 0, .int .i64 0, .int .i64 0, .int .i64 0] 29)).alloc (.cells #[.int .i64 0, .int .i64 0, .int .i64 0, .int .i64 0] 46)) (w.heap.size + 1 + 1) [.bool d0, .bool d1] := (((Kit.Row.newAt _ _ _ _ (by simp)).alloc _).alloc _)
 have q3 : Kit.Row (((((w.alloc (.cells #[.int .i64 (h0.ag 0), .int .i64 (h0.ag 1), .int .i64 (h0.ag 2), .int .i64 (h0.ag 3), .int .i64 (h0.ag 4), .int .i64 (h0.ag 5), .int .i64 (h0.ag 6), .int .i64 (h0.ag 7), .int .i64 h0.port, .int .i64 h0.age, .int .i64 h0.hold, .int .i64 h0.pos, .int .i64 (h1.ag 0), .int .i64 (h1.ag 1), .int .i64 (h1.ag 2), .int .i64 (h1.ag 3), .int .i64 (h1.ag 4), .int .i64 (h1.ag 5), .int .i64 (h1.ag 6), .int .i64 (h1.ag 7), .int .i64 h1.port, .int .i64 h1.age, .int .i64 h1.hold, .int .i64 h1.pos] 29)).alloc (.cells #[.slice A0 n k0, .slice A1 n k1] 80)).alloc (.cells #[.bool d0, .bool d1] 116)).alloc (.cells #[.int .i64 0, .int .i64 0, .int .i64 0, .int .i64 0, .int .i64 0, .int .i64 0, .int .i64 0, .int .i64 0, .int .i64 0, .int .i64 0, .int .i64 0, .int .i64 0, .int .i64 0, .int .i64 0, .int .i64 0, .int .i64 0, .int .i64 0, .int .i64 0, .int .i64 0, .int .i64 0, .int .i64 0, .int .i64 0, .int .i64 0, .int .i64 0] 29)).alloc (.cells #[.int .i64 0, .int .i64 0, .int .i64 0, .int .i64 0] 46)) (w.heap.size + 1 + 1 + 1) [.int .i64 0, .int .i64 0, .int .i64 0, .int .i64 0, .int .i64 0, .int .i64 0, .int .i64 0, .int .i64 0, .int .i64 0, .int .i64 0, .int .i64 0, .int .i64 0, .int .i64 0, .int .i64 0, .int .i64 0, .int .i64 0, .int .i64 0, .int .i64 0, .int .i64 0, .int .i64 0, .int .i64 0, .int .i64 0, .int .i64 0, .int .i64 0] := ((Kit.Row.newAt _ _ _ _ (by simp)).alloc _)
 have q4 : Kit.Row (((((w.alloc (.cells #[.int .i64 (h0.ag 0), .int .i64 (h0.ag 1), .int .i64 (h0.ag 2), .int .i64 (h0.ag 3), .int .i64 (h0.ag 4), .int .i64 (h0.ag 5), .int .i64 (h0.ag 6), .int .i64 (h0.ag 7), .int .i64 h0.port, .int .i64 h0.age, .int .i64 h0.hold, .int .i64 h0.pos, .int .i64 (h1.ag 0), .int .i64 (h1.ag 1), .int .i64 (h1.ag 2), .int .i64 (h1.ag 3), .int .i64 (h1.ag 4), .int .i64 (h1.ag 5), .int .i64 (h1.ag 6), .int .i64 (h1.ag 7), .int .i64 h1.port, .int .i64 h1.age, .int .i64 h1.hold, .int .i64 h1.pos] 29)).alloc (.cells #[.slice A0 n k0, .slice A1 n k1] 80)).alloc (.cells #[.bool d0, .bool d1] 116)).alloc (.cells #[.int .i64 0, .int .i64 0, .int .i64 0, .int .i64 0, .int .i64 0, .int .i64 0, .int .i64 0, .int .i64 0, .int .i64 0, .int .i64 0, .int .i64 0, .int .i64 0, .int .i64 0, .int .i64 0, .int .i64 0, .int .i64 0, .int .i64 0, .int .i64 0, .int .i64 0, .int .i64 0, .int .i64 0, .int .i64 0, .int .i64 0, .int .i64 0] 29)).alloc (.cells #[.int .i64 0, .int .i64 0, .int .i64 0, .int .i64 0] 46)) (w.heap.size + 1 + 1 + 1 + 1) [.int .i64 0, .int .i64 0, .int .i64 0, .int .i64 0] := (Kit.Row.newAt _ _ _ _ (by simp))
 have qb : Below w.heap.size w (((((w.alloc (.cells #[.int .i64 (h0.ag 0), .int .i64 (h0.ag 1), .int .i64 (h0.ag 2), .int .i64 (h0.ag 3), .int .i64 (h0.ag 4), .int .i64 (h0.ag 5), .int .i64 (h0.ag 6), .int .i64 (h0.ag 7), .int .i64 h0.port, .int .i64 h0.age, .int .i64 h0.hold, .int .i64 h0.pos, .int .i64 (h1.ag 0), .int .i64 (h1.ag 1), .int .i64 (h1.ag 2), .int .i64 (h1.ag 3), .int .i64 (h1.ag 4), .int .i64 (h1.ag 5), .int .i64 (h1.ag 6), .int .i64 (h1.ag 7), .int .i64 h1.port, .int .i64 h1.age, .int .i64 h1.hold, .int .i64 h1.pos] 29)).alloc (.cells #[.slice A0 n k0, .slice A1 n k1] 80)).alloc (.cells #[.bool d0, .bool d1] 116)).alloc (.cells #[.int .i64 0, .int .i64 0, .int .i64 0, .int .i64 0, .int .i64 0, .int .i64 0, .int .i64 0, .int .i64 0, .int .i64 0, .int .i64 0, .int .i64 0, .int .i64 0, .int .i64 0, .int .i64 0, .int .i64 0, .int .i64 0, .int .i64 0, .int .i64 0, .int .i64 0, .int .i64 0, .int .i64 0, .int .i64 0, .int .i64 0, .int .i64 0] 29)).alloc (.cells #[.int .i64 0, .int .i64 0, .int .i64 0, .int .i64 0] 46)) := ((((((Below.refl _ _).alloc (Nat.le_refl _) _).alloc (by simp) _).alloc (by simp; omega) _).alloc (by simp; omega) _).alloc (by simp; omega) _)
 generalize (((((w.alloc (.cells #[.int .i64 (h0.ag 0), .int .i64 (h0.ag 1), .int .i64 (h0.ag 2), .int .i64 (h0.ag 3), .int .i64 (h0.ag 4), .int .i64 (h0.ag 5), .int .i64 (h0.ag 6), .int .i64 (h0.ag 7), .int .i64 h0.port, .int .i64 h0.age, .int .i64 h0.hold, .int .i64 h0.pos, .int .i64 (h1.ag 0), .int .i64 (h1.ag 1), .int .i64 (h1.ag 2), .int .i64 (h1.ag 3), .int .i64 (h1.ag 4), .int .i64 (h1.ag 5), .int .i64 (h1.ag 6), .int .i64 (h1.ag 7), .int .i64 h1.port, .int .i64 h1.age, .int .i64 h1.hold, .int .i64 h1.pos] 29)).alloc (.cells #[.slice A0 n k0, .slice A1 n k1] 80)).alloc (.cells #[.bool d0, .bool d1] 116)).alloc (.cells #[.int .i64 0, .int .i64 0, .int .i64 0, .int .i64 0, .int .i64 0, .int .i64 0, .int .i64 0, .int .i64 0, .int .i64 0, .int .i64 0, .int .i64 0, .int .i64 0, .int .i64 0, .int .i64 0, .int .i64 0, .int .i64 0, .int .i64 0, .int .i64 0, .int .i64 0, .int .i64 0, .int .i64 0, .int .i64 0, .int .i64 0, .int .i64 0] 29)).alloc (.cells #[.int .i64 0, .int .i64 0, .int .i64 0, .int .i64 0] 46)) = w2 at *
 have R0 := Lib.hid q0
 have R1 := Lib.hid q1
 have R2 := Lib.hid q2
 have R3 := Lib.hid q3
 have R4 := Lib.hid q4
 have HB := Lib.hid qb
 clear q0 q1 q2 q3 q4 qb
 go_step
 refine Kit.wpList_load_row rfl 29 (.tmp 5) rfl w.heap.size 0 rfl R0.out [.int .i64 (h0.ag 0), .int .i64 (h0.ag 1), .int .i64 (h0.ag 2), .int .i64 (h0.ag 3), .int .i64 (h0.ag 4), .int .i64 (h0.ag 5), .int .i64 (h0.ag 6), .int .i64 (h0.ag 7), .int .i64 h0.port, .int .i64 h0.age, .int .i64 h0.hold, .int .i64 h0.pos, .int .i64 (h1.ag 0), .int .i64 (h1.ag 1), .int .i64 (h1.ag 2), .int .i64 (h1.ag 3), .int .i64 (h1.ag 4), .int .i64 (h1.ag 5), .int .i64 (h1.ag 6), .int .i64 (h1.ag 7), .int .i64 h1.port, .int .i64 h1.age, .int .i64 h1.hold, .int .i64 h1.pos] rfl _ Tryz.underlying29 rfl sizeHubs ?_
 go_wp2_with fail
 go_loopw [12, 18] (fun _ vi wr => ∃ k : Nat, k ≤ 2 ∧ vi = .int .i64 k ∧ Hid (Kit.Row wr (w.heap.size) [.int .i64 (h0.ag 0), .int .i64 (h0.ag 1), .int .i64 (h0.ag 2), .int .i64 (h0.ag 3), .int .i64 (h0.ag 4), .int .i64 (h0.ag 5), .int .i64 (h0.ag 6), .int .i64 (h0.ag 7), .int .i64 h0.port, .int .i64 h0.age, .int .i64 h0.hold, .int .i64 h0.pos, .int .i64 (h1.ag 0), .int .i64 (h1.ag 1), .int .i64 (h1.ag 2), .int .i64 (h1.ag 3), .int .i64 (h1.ag 4), .int .i64 (h1.ag 5), .int .i64 (h1.ag 6), .int .i64 (h1.ag 7), .int .i64 h1.port, .int .i64 h1.age, .int .i64 h1.hold, .int .i64 h1.pos]) ∧ Hid (Kit.Row wr (w.heap.size + 1) [.slice A0 n k0, .slice A1 n k1]) ∧ Hid (Kit.Row wr (w.heap.size + 1 + 1) [.bool d0, .bool d1]) ∧ Hid (Kit.Row wr (w.heap.size + 1 + 1 + 1) [.int .i64 0, .int .i64 0, .int .i64 0, .int .i64 0, .int .i64 0, .int .i64 0, .int .i64 0, .int .i64 0, .int .i64 0, .int .i64 0, .int .i64 0, .int .i64 0, .int .i64 0, .int .i64 0, .int .i64 0, .int .i64 0, .int .i64 0, .int .i64 0, .int .i64 0, .int .i64 0, .int .i64 0, .int .i64 0, .int .i64 0, .int .i64 0]) ∧ Hid (Kit.Row wr (w.heap.size + 1 + 1 + 1 + 1) [.int .i64 0, .int .i64 0, .int .i64 0, .int .i64 0]) ∧ Hid (Below w.heap.size w wr)) (fun _ vi _ => 2 - (intOf vi).toNat)
 case atStart => exact ⟨0, by omega, rfl, R0, R1, R2, R3, R4, HB⟩
 case round =>
  clear R0 R1 R2 R3 R4 HB
  obtain ⟨k, hk, rfl, R0, R1, R2, R3, R4, HB⟩ := hrel
  have hk' : k = 0 ∨ k = 1 ∨ k = 2 := by omega
  rcases hk' with rfl | rfl | rfl
  ·go_upto_region 3 with fail
   have lt4 := R4.out.lt
   iterate 7 (first | go_guarded | go_step | go_upon | go_back)
   refine Kit.wpList_store_row rfl 28 (.tmp 12) (.tmp 20) rfl wr.heap.size 0 #[.int .i64 (h0.ag 0), .int .i64 (h0.ag 1), .int .i64 (h0.ag 2), .int .i64 (h0.ag 3), .int .i64 (h0.ag 4), .int .i64 (h0.ag 5), .int .i64 (h0.ag 6), .int .i64 (h0.ag 7), .int .i64 h0.port, .int .i64 h0.age, .int .i64 h0.hold, .int .i64 h0.pos] rfl rfl (Kit.Row.newAt wr _ _ _ rfl) (by simp) sizeHub (by first | rfl | (simp [Value.oneCell']; done) | decide) ?_
   intro W hW
   have s0 := Lib.hid ((R0.out.alloc _).off hW (by omega))
   have s1 := Lib.hid ((R1.out.alloc _).off hW (by omega))
   have s2 := Lib.hid ((R2.out.alloc _).off hW (by omega))
   have s3 := Lib.hid ((R3.out.alloc _).off hW (by omega))
   have s4 := Lib.hid ((R4.out.alloc _).off hW (by omega))
   have s5 : Kit.Row W wr.heap.size [.int .i64 (h0.ag 0), .int .i64 (h0.ag 1), .int .i64 (h0.ag 2), .int .i64 (h0.ag 3), .int .i64 (h0.ag 4), .int .i64 (h0.ag 5), .int .i64 (h0.ag 6), .int .i64 (h0.ag 7), .int .i64 h0.port, .int .i64 h0.age, .int .i64 h0.hold, .int .i64 h0.pos] := (Kit.Row.newAt wr _ _ _ rfl).all hW rfl
   have sb := Lib.hid (Kit.below_of (HB.out.alloc HB.out.size _) hW HB.out.size)
   clear hW R0 R1 R2 R3 R4 HB
   generalize wr.heap.size = N at *
   have c0 := s5.at_ 0 (.int .i64 (h0.ag 0)) rfl
   have c1 := s5.at_ 1 (.int .i64 (h0.ag 1)) rfl
   have c2 := s5.at_ 2 (.int .i64 (h0.ag 2)) rfl
   have c3 := s5.at_ 3 (.int .i64 (h0.ag 3)) rfl
   have c4 := s5.at_ 4 (.int .i64 (h0.ag 4)) rfl
   have c5 := s5.at_ 5 (.int .i64 (h0.ag 5)) rfl
   have c6 := s5.at_ 6 (.int .i64 (h0.ag 6)) rfl
   have c7 := s5.at_ 7 (.int .i64 (h0.ag 7)) rfl
   have c8 := s5.at_ 8 (.int .i64 h0.port) rfl
   have c9 := s5.at_ 9 (.int .i64 h0.age) rfl
   have c10 := s5.at_ 10 (.int .i64 h0.hold) rfl
   have c11 := s5.at_ 11 (.int .i64 h0.pos) rfl
   clear s5
   go_wp2_with fail
   refine (KR0.out _).mono ?_
   rintro e w8 ⟨rfl, b8⟩
   have t0 := Lib.hid (s0.out.below b8)
   have t1 := Lib.hid (s1.out.below b8)
   have t2 := Lib.hid (s2.out.below b8)
   have t3 := Lib.hid (s3.out.below b8)
   have t4 := Lib.hid (s4.out.below b8)
   have tb := Lib.hid (sb.out.trans (b8.mono sb.out.size))
   clear b8 c0 c1 c2 c3 c4 c5 c6 c7 c8 c9 c10 c11
   go_wp2_with fail
   go_roundw
   case rel => exact ⟨1, by omega, by go_num, t0, t1, t2, t3, t4, tb⟩
   case measure => simp [intOf]
  ·go_upto_region 3 with fail
   have lt4 := R4.out.lt
   iterate 7 (first | go_guarded | go_step | go_upon | go_back)
   refine Kit.wpList_store_row rfl 28 (.tmp 12) (.tmp 20) rfl wr.heap.size 0 #[.int .i64 (h1.ag 0), .int .i64 (h1.ag 1), .int .i64 (h1.ag 2), .int .i64 (h1.ag 3), .int .i64 (h1.ag 4), .int .i64 (h1.ag 5), .int .i64 (h1.ag 6), .int .i64 (h1.ag 7), .int .i64 h1.port, .int .i64 h1.age, .int .i64 h1.hold, .int .i64 h1.pos] rfl rfl (Kit.Row.newAt wr _ _ _ rfl) (by simp) sizeHub (by first | rfl | (simp [Value.oneCell']; done) | decide) ?_
   intro W hW
   have s0 := Lib.hid ((R0.out.alloc _).off hW (by omega))
   have s1 := Lib.hid ((R1.out.alloc _).off hW (by omega))
   have s2 := Lib.hid ((R2.out.alloc _).off hW (by omega))
   have s3 := Lib.hid ((R3.out.alloc _).off hW (by omega))
   have s4 := Lib.hid ((R4.out.alloc _).off hW (by omega))
   have s5 : Kit.Row W wr.heap.size [.int .i64 (h1.ag 0), .int .i64 (h1.ag 1), .int .i64 (h1.ag 2), .int .i64 (h1.ag 3), .int .i64 (h1.ag 4), .int .i64 (h1.ag 5), .int .i64 (h1.ag 6), .int .i64 (h1.ag 7), .int .i64 h1.port, .int .i64 h1.age, .int .i64 h1.hold, .int .i64 h1.pos] := (Kit.Row.newAt wr _ _ _ rfl).all hW rfl
   have sb := Lib.hid (Kit.below_of (HB.out.alloc HB.out.size _) hW HB.out.size)
   clear hW R0 R1 R2 R3 R4 HB
   generalize wr.heap.size = N at *
   have c0 := s5.at_ 0 (.int .i64 (h1.ag 0)) rfl
   have c1 := s5.at_ 1 (.int .i64 (h1.ag 1)) rfl
   have c2 := s5.at_ 2 (.int .i64 (h1.ag 2)) rfl
   have c3 := s5.at_ 3 (.int .i64 (h1.ag 3)) rfl
   have c4 := s5.at_ 4 (.int .i64 (h1.ag 4)) rfl
   have c5 := s5.at_ 5 (.int .i64 (h1.ag 5)) rfl
   have c6 := s5.at_ 6 (.int .i64 (h1.ag 6)) rfl
   have c7 := s5.at_ 7 (.int .i64 (h1.ag 7)) rfl
   have c8 := s5.at_ 8 (.int .i64 h1.port) rfl
   have c9 := s5.at_ 9 (.int .i64 h1.age) rfl
   have c10 := s5.at_ 10 (.int .i64 h1.hold) rfl
   have c11 := s5.at_ 11 (.int .i64 h1.pos) rfl
   clear s5
   go_wp2_with fail
   refine (KR1.out _).mono ?_
   rintro e w8 ⟨rfl, b8⟩
   have t0 := Lib.hid (s0.out.below b8)
   have t1 := Lib.hid (s1.out.below b8)
   have t2 := Lib.hid (s2.out.below b8)
   have t3 := Lib.hid (s3.out.below b8)
   have t4 := Lib.hid (s4.out.below b8)
   have tb := Lib.hid (sb.out.trans (b8.mono sb.out.size))
   clear b8 c0 c1 c2 c3 c4 c5 c6 c7 c8 c9 c10 c11
   go_wp2_with fail
   go_roundw
   case rel => exact ⟨2, by omega, by go_num, t0, t1, t2, t3, t4, tb⟩
   case measure => simp [intOf]
  ·have cast2 : ((2 : Nat) : Int) = 2 := rfl
   simp only [cast2]
   have i0 := R1.out.at_ 0 (.slice A0 n k0) rfl
   have i1 := R1.out.at_ 1 (.slice A1 n k1) rfl
   go_wp2_with fail
   go_loopw [14, 29] (fun _ vi wr => ∃ k : Nat, k ≤ 2 ∧ vi = .int .i64 k ∧ Hid (Kit.Row wr (w.heap.size) [.int .i64 (h0.ag 0), .int .i64 (h0.ag 1), .int .i64 (h0.ag 2), .int .i64 (h0.ag 3), .int .i64 (h0.ag 4), .int .i64 (h0.ag 5), .int .i64 (h0.ag 6), .int .i64 (h0.ag 7), .int .i64 h0.port, .int .i64 h0.age, .int .i64 h0.hold, .int .i64 h0.pos, .int .i64 (h1.ag 0), .int .i64 (h1.ag 1), .int .i64 (h1.ag 2), .int .i64 (h1.ag 3), .int .i64 (h1.ag 4), .int .i64 (h1.ag 5), .int .i64 (h1.ag 6), .int .i64 (h1.ag 7), .int .i64 h1.port, .int .i64 h1.age, .int .i64 h1.hold, .int .i64 h1.pos]) ∧ Hid (Kit.Row wr (w.heap.size + 1) [.slice A0 n k0, .slice A1 n k1]) ∧ Hid (Kit.Row wr (w.heap.size + 1 + 1) [.bool d0, .bool d1]) ∧ Hid (Kit.Row wr (w.heap.size + 1 + 1 + 1) [.int .i64 0, .int .i64 0, .int .i64 0, .int .i64 0, .int .i64 0, .int .i64 0, .int .i64 0, .int .i64 0, .int .i64 0, .int .i64 0, .int .i64 0, .int .i64 0, .int .i64 0, .int .i64 0, .int .i64 0, .int .i64 0, .int .i64 0, .int .i64 0, .int .i64 0, .int .i64 0, .int .i64 0, .int .i64 0, .int .i64 0, .int .i64 0]) ∧ Hid (Kit.Row wr (w.heap.size + 1 + 1 + 1 + 1) [.int .i64 0, .int .i64 0, .int .i64 0, .int .i64 0]) ∧ Hid (Below w.heap.size w wr)) (fun _ vi _ => 2 - (intOf vi).toNat)
   case atStart => exact ⟨0, by omega, rfl, R0, R1, R2, R3, R4, HB⟩
   case round =>
    clear R0 R1 R2 R3 R4 HB i0 i1
    obtain ⟨k, hk, rfl, R0, R1, R2, R3, R4, HB⟩ := hrel
    have hk' : k = 0 ∨ k = 1 ∨ k = 2 := by omega
    rcases hk' with rfl | rfl | rfl
    ·go_wp2_with fail
     refine (KF0.out _ HB.out).mono ?_
     rintro e w8 ⟨rfl, b8⟩
     have t0 := Lib.hid (R0.out.below b8)
     have t1 := Lib.hid (R1.out.below b8)
     have t2 := Lib.hid (R2.out.below b8)
     have t3 := Lib.hid (R3.out.below b8)
     have t4 := Lib.hid (R4.out.below b8)
     have tb := Lib.hid (HB.out.trans (b8.mono HB.out.size))
     clear b8
     go_wp2_with fail
     go_roundw
     case rel => exact ⟨1, by omega, by go_num, t0, t1, t2, t3, t4, tb⟩
     case measure => simp [intOf]
    ·go_wp2_with fail
     refine (KF1.out _ HB.out).mono ?_
     rintro e w8 ⟨rfl, b8⟩
     have t0 := Lib.hid (R0.out.below b8)
     have t1 := Lib.hid (R1.out.below b8)
     have t2 := Lib.hid (R2.out.below b8)
     have t3 := Lib.hid (R3.out.below b8)
     have t4 := Lib.hid (R4.out.below b8)
     have tb := Lib.hid (HB.out.trans (b8.mono HB.out.size))
     clear b8
     go_wp2_with fail
     go_roundw
     case rel => exact ⟨2, by omega, by go_num, t0, t1, t2, t3, t4, tb⟩
     case measure => simp [intOf]
    ·simp only [cast2]
     go_upto_region 13 with fail
     go_step
     refine Kit.wpList_load_row rfl 29 (.tmp 5) rfl w.heap.size 0 rfl R0.out [.int .i64 (h0.ag 0), .int .i64 (h0.ag 1), .int .i64 (h0.ag 2), .int .i64 (h0.ag 3), .int .i64 (h0.ag 4), .int .i64 (h0.ag 5), .int .i64 (h0.ag 6), .int .i64 (h0.ag 7), .int .i64 h0.port, .int .i64 h0.age, .int .i64 h0.hold, .int .i64 h0.pos, .int .i64 (h1.ag 0), .int .i64 (h1.ag 1), .int .i64 (h1.ag 2), .int .i64 (h1.ag 3), .int .i64 (h1.ag 4), .int .i64 (h1.ag 5), .int .i64 (h1.ag 6), .int .i64 (h1.ag 7), .int .i64 h1.port, .int .i64 h1.age, .int .i64 h1.hold, .int .i64 h1.pos] rfl _ Tryz.underlying29 rfl sizeHubs ?_
     have i0 := R1.out.at_ 0 (.slice A0 n k0) rfl
     have i1 := R1.out.at_ 1 (.slice A1 n k1) rfl
     have j0 := R2.out.at_ 0 (.bool d0) rfl
     have j1 := R2.out.at_ 1 (.bool d1) rfl
     go_wp2_with fail
     refine (KS.out _ HB.out).mono ?_
     rintro e w9 ⟨A, A', c, c', rfl, fr0, fr1, hA, hA', b9⟩
     have HC := Lib.hid (Spared.refl w9 w.heap.size (w.heap.size + 5))
     have hl4 := R4.out.lt
     have hA2 : Hid (∀ b o, A = some ⟨b, o, none⟩ → b < w.heap.size ∨ w.heap.size + 5 ≤ b) := Lib.hid (fun b o e => by
      rcases hA with rfl | ⟨g, rfl, hg⟩
      ·left
       obtain ⟨b', o', e', hb', _⟩ := Lies.at_ FA.out (by omega : 0 < n)
       rw [e'] at e; injection e with e; injection e with e1; omega
      ·right
       injection e with e; injection e with e1; omega)
     have hA3 : Hid (∀ b o, A' = some ⟨b, o, none⟩ → b < w.heap.size ∨ w.heap.size + 5 ≤ b) := Lib.hid (fun b o e => by
      rcases hA' with rfl | ⟨g, rfl, hg⟩
      ·left
       obtain ⟨b', o', e', hb', _⟩ := Lies.at_ FB.out (by omega : 0 < n)
       rw [e'] at e; injection e with e; injection e with e1; omega
      ·right
       injection e with e; injection e with e1; omega)
     clear hA hA' hl4
     have FR0 := Lib.hid fr0
     have FR1 := Lib.hid fr1
     have S3 : Hid (Kit.Row w9 (w.heap.size + 1 + 1 + 1) [.int .i64 0, .int .i64 0, .int .i64 0, .int .i64 0, .int .i64 0, .int .i64 0, .int .i64 0, .int .i64 0, .int .i64 0, .int .i64 0, .int .i64 0, .int .i64 0, .int .i64 0, .int .i64 0, .int .i64 0, .int .i64 0, .int .i64 0, .int .i64 0, .int .i64 0, .int .i64 0, .int .i64 0, .int .i64 0, .int .i64 0, .int .i64 0]) := Lib.hid (R3.out.below b9)
     have S4 : Hid (Kit.Row w9 (w.heap.size + 1 + 1 + 1 + 1) [.int .i64 0, .int .i64 0, .int .i64 0, .int .i64 0]) := Lib.hid (R4.out.below b9)
     have HB9 := Lib.hid (HB.out.trans (b9.mono HB.out.size))
     clear fr0 fr1 b9 R0 R1 R2 R3 R4 HB i0 i1 j0 j1
     go_wp2_with fail
     go_loopw [15, 16, 43] (fun _ _ vi wr => (vi = .int .i64 0 ∧ Hid (Kit.Row wr (w.heap.size + 1 + 1 + 1) [.int .i64 0, .int .i64 0, .int .i64 0, .int .i64 0, .int .i64 0, .int .i64 0, .int .i64 0, .int .i64 0, .int .i64 0, .int .i64 0, .int .i64 0, .int .i64 0, .int .i64 0, .int .i64 0, .int .i64 0, .int .i64 0, .int .i64 0, .int .i64 0, .int .i64 0, .int .i64 0, .int .i64 0, .int .i64 0, .int .i64 0, .int .i64 0]) ∧ Hid (Kit.Row wr (w.heap.size + 1 + 1 + 1 + 1) [.int .i64 0, .int .i64 0, .int .i64 0, .int .i64 0]) ∨ vi = .int .i64 1 ∧ Hid (Kit.Row wr (w.heap.size + 1 + 1 + 1) [.int .i64 (g0.ag 0), .int .i64 (g0.ag 1), .int .i64 (g0.ag 2), .int .i64 (g0.ag 3), .int .i64 (g0.ag 4), .int .i64 (g0.ag 5), .int .i64 (g0.ag 6), .int .i64 (g0.ag 7), .int .i64 g0.port, .int .i64 g0.age, .int .i64 g0.hold, .int .i64 g0.pos, .int .i64 0, .int .i64 0, .int .i64 0, .int .i64 0, .int .i64 0, .int .i64 0, .int .i64 0, .int .i64 0, .int .i64 0, .int .i64 0, .int .i64 0, .int .i64 0]) ∧ Hid (Kit.Row wr (w.heap.size + 1 + 1 + 1 + 1) [.int .i64 f0.k, .int .i64 f0.i, .int .i64 0, .int .i64 0]) ∨ vi = .int .i64 2 ∧ Hid (Kit.Row wr (w.heap.size + 1 + 1 + 1) [.int .i64 (g0.ag 0), .int .i64 (g0.ag 1), .int .i64 (g0.ag 2), .int .i64 (g0.ag 3), .int .i64 (g0.ag 4), .int .i64 (g0.ag 5), .int .i64 (g0.ag 6), .int .i64 (g0.ag 7), .int .i64 g0.port, .int .i64 g0.age, .int .i64 g0.hold, .int .i64 g0.pos, .int .i64 (g1.ag 0), .int .i64 (g1.ag 1), .int .i64 (g1.ag 2), .int .i64 (g1.ag 3), .int .i64 (g1.ag 4), .int .i64 (g1.ag 5), .int .i64 (g1.ag 6), .int .i64 (g1.ag 7), .int .i64 g1.port, .int .i64 g1.age, .int .i64 g1.hold, .int .i64 g1.pos]) ∧ Hid (Kit.Row wr (w.heap.size + 1 + 1 + 1 + 1) [.int .i64 f0.k, .int .i64 f0.i, .int .i64 f1.k, .int .i64 f1.i])) ∧ Hid (Below w.heap.size w wr) ∧ Hid (Spared w9 wr w.heap.size (w.heap.size + 5))) (fun _ _ vi _ => 2 - (intOf vi).toNat)
     case atStart => exact ⟨Or.inl ⟨rfl, S3, S4⟩, HB9, HC⟩
     case round =>
      clear S3 S4 HB9 HC
      obtain ⟨hc, HB, HC⟩ := hrel
      have KH0 := Lib.hid (fun W (hW : Spared w9 W w.heap.size (w.heap.size + 5)) => KG0.out W A c (FR0.out.spared hW hA2.out))
      have KH1 := Lib.hid (fun W (hW : Spared w9 W w.heap.size (w.heap.size + 5)) => KG1.out W A' c' (FR1.out.spared hW hA3.out))
      rcases hc with ⟨rfl, R3, R4⟩ | ⟨rfl, R3, R4⟩ | ⟨rfl, R3, R4⟩
      ·go_upto_region 15 with fail
       have lt4 := R4.out.lt
       iterate 13 (first | go_guarded | go_step | go_upon | go_back)
       refine Kit.wpList_store_row rfl 141 (.tmp 16) (.tmp 46) rfl wr.heap.size 0 #[.int .i64 (h0.ag 0), .int .i64 (h0.ag 1), .int .i64 (h0.ag 2), .int .i64 (h0.ag 3), .int .i64 (h0.ag 4), .int .i64 (h0.ag 5), .int .i64 (h0.ag 6), .int .i64 (h0.ag 7), .int .i64 h0.port, .int .i64 h0.age, .int .i64 h0.hold, .int .i64 h0.pos, .slice A n c] rfl rfl (Kit.Row.newAt wr _ _ _ rfl) (by simp) sizeSide (by first | rfl | (simp [Value.oneCell']; done) | decide) ?_
       intro W hW
       have s3 := Lib.hid ((R3.out.alloc _).off hW (by omega))
       have s4 := Lib.hid ((R4.out.alloc _).off hW (by omega))
       have s5 : Kit.Row W wr.heap.size [.int .i64 (h0.ag 0), .int .i64 (h0.ag 1), .int .i64 (h0.ag 2), .int .i64 (h0.ag 3), .int .i64 (h0.ag 4), .int .i64 (h0.ag 5), .int .i64 (h0.ag 6), .int .i64 (h0.ag 7), .int .i64 h0.port, .int .i64 h0.age, .int .i64 h0.hold, .int .i64 h0.pos, .slice A n c] := (Kit.Row.newAt wr _ _ _ rfl).all hW rfl
       have sb := Lib.hid (Kit.below_of (HB.out.alloc HB.out.size _) hW HB.out.size)
       have sc := Lib.hid ((HC.out.below ((Below.refl _ _).alloc (Nat.le_refl _) _)).on hW (Or.inl HC.out.1))
       clear hW R3 R4 HB HC
       generalize wr.heap.size = N at *
       have c0 := s5.at_ 0 (.int .i64 (h0.ag 0)) rfl
       have c1 := s5.at_ 1 (.int .i64 (h0.ag 1)) rfl
       have c2 := s5.at_ 2 (.int .i64 (h0.ag 2)) rfl
       have c3 := s5.at_ 3 (.int .i64 (h0.ag 3)) rfl
       have c4 := s5.at_ 4 (.int .i64 (h0.ag 4)) rfl
       have c5 := s5.at_ 5 (.int .i64 (h0.ag 5)) rfl
       have c6 := s5.at_ 6 (.int .i64 (h0.ag 6)) rfl
       have c7 := s5.at_ 7 (.int .i64 (h0.ag 7)) rfl
       have c8 := s5.at_ 8 (.int .i64 h0.port) rfl
       have c9 := s5.at_ 9 (.int .i64 h0.age) rfl
       have c10 := s5.at_ 10 (.int .i64 h0.hold) rfl
       have c11 := s5.at_ 11 (.int .i64 h0.pos) rfl
       have c12 := s5.at_ 12 (.slice A n c) rfl
       clear s5
       go_wp2_with fail
       refine (KH0.out _ sc.out).mono ?_
       rintro e w8 ⟨rfl, b8⟩
       have t3 := Lib.hid (s3.out.below b8)
       have t4 := Lib.hid (s4.out.below b8)
       have tb := Lib.hid (sb.out.trans (b8.mono sb.out.size))
       have tc := Lib.hid (sc.out.below b8)
       have lt8 := t3.out.lt
       clear b8 c0 c1 c2 c3 c4 c5 c6 c7 c8 c9 c10 c11 c12
       dsimp only
       iterate 16 (first | go_guarded | go_step | go_upon | go_back)
       refine Kit.wpList_store_row rfl 28 (.tmp 59) (.tmp 56) rfl (w.heap.size + 1 + 1 + 1) 0 #[.int .i64 (g0.ag 0), .int .i64 (g0.ag 1), .int .i64 (g0.ag 2), .int .i64 (g0.ag 3), .int .i64 (g0.ag 4), .int .i64 (g0.ag 5), .int .i64 (g0.ag 6), .int .i64 (g0.ag 7), .int .i64 g0.port, .int .i64 g0.age, .int .i64 g0.hold, .int .i64 g0.pos] rfl rfl t3.out (by simp) sizeHub (by first | rfl | (simp [Value.oneCell']; done) | decide) ?_
       intro W2 hW2
       have u3 : Hid (Kit.Row W2 (w.heap.size + 1 + 1 + 1) [.int .i64 (g0.ag 0), .int .i64 (g0.ag 1), .int .i64 (g0.ag 2), .int .i64 (g0.ag 3), .int .i64 (g0.ag 4), .int .i64 (g0.ag 5), .int .i64 (g0.ag 6), .int .i64 (g0.ag 7), .int .i64 g0.port, .int .i64 g0.age, .int .i64 g0.hold, .int .i64 g0.pos, .int .i64 0, .int .i64 0, .int .i64 0, .int .i64 0, .int .i64 0, .int .i64 0, .int .i64 0, .int .i64 0, .int .i64 0, .int .i64 0, .int .i64 0, .int .i64 0]) := Lib.hid ((t3.out.on hW2 (by simp)).cast rfl)
       have u4 := t4.out.off hW2 (by omega)
       have ub := Lib.hid (Kit.below_of tb.out hW2 (by omega))
       have uc := Lib.hid (tc.out.on hW2 (Or.inr ⟨by omega, by omega⟩))
       have lt9 := u4.lt
       have x0 := u4.at_ 0 (.int .i64 0) rfl
       have x1 := u4.at_ 1 (.int .i64 0) rfl
       have y0 := u4.free 0 (by simp)
       have y1 := u4.free 1 (by simp)
       have U4 := Lib.hid u4
       clear hW2 t3 t4 tb tc u4
       go_wp2_with fail
       go_roundw
       case rel => exact ⟨Or.inr (Or.inl ⟨by go_num, Lib.hid (u3.out.far (w.heap.size + 1 + 1 + 1 + 1) 0 (.int .i64 f0.k) (by omega) |>.far (w.heap.size + 1 + 1 + 1 + 1) 1 (.int .i64 f0.i) (by omega)), Lib.hid ((U4.out.set 0 (.int .i64 f0.k) (by simp)).set 1 (.int .i64 f0.i) (by simp) |>.cast rfl)⟩), Lib.hid ((ub.out.setCell (p := ⟨w.heap.size + 1 + 1 + 1 + 1, 0, none⟩) (show w.heap.size ≤ w.heap.size + 1 + 1 + 1 + 1 by omega) _).setCell (p := ⟨w.heap.size + 1 + 1 + 1 + 1, 1, none⟩) (show w.heap.size ≤ w.heap.size + 1 + 1 + 1 + 1 by omega) _), Lib.hid ((uc.out.set (Or.inr ⟨by omega, by omega⟩)).set (Or.inr ⟨by omega, by omega⟩))⟩
       case measure => simp [intOf]
      ·go_upto_region 15 with fail
       have lt4 := R4.out.lt
       iterate 13 (first | go_guarded | go_step | go_upon | go_back)
       refine Kit.wpList_store_row rfl 141 (.tmp 16) (.tmp 46) rfl wr.heap.size 0 #[.int .i64 ((hs d0 h0 h1).ag 0), .int .i64 ((hs d0 h0 h1).ag 1), .int .i64 ((hs d0 h0 h1).ag 2), .int .i64 ((hs d0 h0 h1).ag 3), .int .i64 ((hs d0 h0 h1).ag 4), .int .i64 ((hs d0 h0 h1).ag 5), .int .i64 ((hs d0 h0 h1).ag 6), .int .i64 ((hs d0 h0 h1).ag 7), .int .i64 ((hs d0 h0 h1).port), .int .i64 ((hs d0 h0 h1).age), .int .i64 ((hs d0 h0 h1).hold), .int .i64 ((hs d0 h0 h1).pos), .slice A' n c'] rfl rfl (Kit.Row.newAt wr _ _ _ rfl) (by simp) sizeSide (by first | rfl | (simp [Value.oneCell']; done) | decide) ?_
       intro W hW
       have s3 := Lib.hid ((R3.out.alloc _).off hW (by omega))
       have s4 := Lib.hid ((R4.out.alloc _).off hW (by omega))
       have s5 : Kit.Row W wr.heap.size [.int .i64 ((hs d0 h0 h1).ag 0), .int .i64 ((hs d0 h0 h1).ag 1), .int .i64 ((hs d0 h0 h1).ag 2), .int .i64 ((hs d0 h0 h1).ag 3), .int .i64 ((hs d0 h0 h1).ag 4), .int .i64 ((hs d0 h0 h1).ag 5), .int .i64 ((hs d0 h0 h1).ag 6), .int .i64 ((hs d0 h0 h1).ag 7), .int .i64 ((hs d0 h0 h1).port), .int .i64 ((hs d0 h0 h1).age), .int .i64 ((hs d0 h0 h1).hold), .int .i64 ((hs d0 h0 h1).pos), .slice A' n c'] := (Kit.Row.newAt wr _ _ _ rfl).all hW rfl
       have sb := Lib.hid (Kit.below_of (HB.out.alloc HB.out.size _) hW HB.out.size)
       have sc := Lib.hid ((HC.out.below ((Below.refl _ _).alloc (Nat.le_refl _) _)).on hW (Or.inl HC.out.1))
       clear hW R3 R4 HB HC
       generalize wr.heap.size = N at *
       have c0 := s5.at_ 0 (.int .i64 ((hs d0 h0 h1).ag 0)) rfl
       have c1 := s5.at_ 1 (.int .i64 ((hs d0 h0 h1).ag 1)) rfl
       have c2 := s5.at_ 2 (.int .i64 ((hs d0 h0 h1).ag 2)) rfl
       have c3 := s5.at_ 3 (.int .i64 ((hs d0 h0 h1).ag 3)) rfl
       have c4 := s5.at_ 4 (.int .i64 ((hs d0 h0 h1).ag 4)) rfl
       have c5 := s5.at_ 5 (.int .i64 ((hs d0 h0 h1).ag 5)) rfl
       have c6 := s5.at_ 6 (.int .i64 ((hs d0 h0 h1).ag 6)) rfl
       have c7 := s5.at_ 7 (.int .i64 ((hs d0 h0 h1).ag 7)) rfl
       have c8 := s5.at_ 8 (.int .i64 ((hs d0 h0 h1).port)) rfl
       have c9 := s5.at_ 9 (.int .i64 ((hs d0 h0 h1).age)) rfl
       have c10 := s5.at_ 10 (.int .i64 ((hs d0 h0 h1).hold)) rfl
       have c11 := s5.at_ 11 (.int .i64 ((hs d0 h0 h1).pos)) rfl
       have c12 := s5.at_ 12 (.slice A' n c') rfl
       clear s5
       go_wp2_with fail
       refine (KH1.out _ sc.out).mono ?_
       rintro e w8 ⟨rfl, b8⟩
       have t3 := Lib.hid (s3.out.below b8)
       have t4 := Lib.hid (s4.out.below b8)
       have tb := Lib.hid (sb.out.trans (b8.mono sb.out.size))
       have tc := Lib.hid (sc.out.below b8)
       have lt8 := t3.out.lt
       clear b8 c0 c1 c2 c3 c4 c5 c6 c7 c8 c9 c10 c11 c12
       dsimp only
       iterate 16 (first | go_guarded | go_step | go_upon | go_back)
       refine Kit.wpList_store_row rfl 28 (.tmp 59) (.tmp 56) rfl (w.heap.size + 1 + 1 + 1) 12 #[.int .i64 (g1.ag 0), .int .i64 (g1.ag 1), .int .i64 (g1.ag 2), .int .i64 (g1.ag 3), .int .i64 (g1.ag 4), .int .i64 (g1.ag 5), .int .i64 (g1.ag 6), .int .i64 (g1.ag 7), .int .i64 g1.port, .int .i64 g1.age, .int .i64 g1.hold, .int .i64 g1.pos] rfl rfl t3.out (by simp) sizeHub (by first | rfl | (simp [Value.oneCell']; done) | decide) ?_
       intro W2 hW2
       have u3 : Hid (Kit.Row W2 (w.heap.size + 1 + 1 + 1) [.int .i64 (g0.ag 0), .int .i64 (g0.ag 1), .int .i64 (g0.ag 2), .int .i64 (g0.ag 3), .int .i64 (g0.ag 4), .int .i64 (g0.ag 5), .int .i64 (g0.ag 6), .int .i64 (g0.ag 7), .int .i64 g0.port, .int .i64 g0.age, .int .i64 g0.hold, .int .i64 g0.pos, .int .i64 (g1.ag 0), .int .i64 (g1.ag 1), .int .i64 (g1.ag 2), .int .i64 (g1.ag 3), .int .i64 (g1.ag 4), .int .i64 (g1.ag 5), .int .i64 (g1.ag 6), .int .i64 (g1.ag 7), .int .i64 g1.port, .int .i64 g1.age, .int .i64 g1.hold, .int .i64 g1.pos]) := Lib.hid ((t3.out.on hW2 (by simp)).cast rfl)
       have u4 := t4.out.off hW2 (by omega)
       have ub := Lib.hid (Kit.below_of tb.out hW2 (by omega))
       have uc := Lib.hid (tc.out.on hW2 (Or.inr ⟨by omega, by omega⟩))
       have lt9 := u4.lt
       have x0 := u4.at_ 2 (.int .i64 0) rfl
       have x1 := u4.at_ 3 (.int .i64 0) rfl
       have y0 := u4.free 2 (by simp)
       have y1 := u4.free 3 (by simp)
       have U4 := Lib.hid u4
       clear hW2 t3 t4 tb tc u4
       go_wp2_with fail
       go_roundw
       case rel => exact ⟨Or.inr (Or.inr ⟨by go_num, Lib.hid (u3.out.far (w.heap.size + 1 + 1 + 1 + 1) 2 (.int .i64 f1.k) (by omega) |>.far (w.heap.size + 1 + 1 + 1 + 1) 3 (.int .i64 f1.i) (by omega)), Lib.hid ((U4.out.set 2 (.int .i64 f1.k) (by simp)).set 3 (.int .i64 f1.i) (by simp) |>.cast rfl)⟩), Lib.hid ((ub.out.setCell (p := ⟨w.heap.size + 1 + 1 + 1 + 1, 2, none⟩) (show w.heap.size ≤ w.heap.size + 1 + 1 + 1 + 1 by omega) _).setCell (p := ⟨w.heap.size + 1 + 1 + 1 + 1, 3, none⟩) (show w.heap.size ≤ w.heap.size + 1 + 1 + 1 + 1 by omega) _), Lib.hid ((uc.out.set (Or.inr ⟨by omega, by omega⟩)).set (Or.inr ⟨by omega, by omega⟩))⟩
       case measure => simp [intOf]
      ·go_wp2_with fail
       have lt4 := R4.out.lt
       refine wp_region_held_drew (S := (fun w' => Kit.Mine w' (w.heap.size + 1 + 1 + 1) [.int .i64 (g0.ag 0), .int .i64 (g0.ag 1), .int .i64 (g0.ag 2), .int .i64 (g0.ag 3), .int .i64 (g0.ag 4), .int .i64 (g0.ag 5), .int .i64 (g0.ag 6), .int .i64 (g0.ag 7), .int .i64 g0.port, .int .i64 g0.age, .int .i64 g0.hold, .int .i64 g0.pos, .int .i64 (g1.ag 0), .int .i64 (g1.ag 1), .int .i64 (g1.ag 2), .int .i64 (g1.ag 3), .int .i64 (g1.ag 4), .int .i64 (g1.ag 5), .int .i64 (g1.ag 6), .int .i64 (g1.ag 7), .int .i64 g1.port, .int .i64 g1.age, .int .i64 g1.hold, .int .i64 g1.pos] ∧ Kit.Mine w' (w.heap.size + 1 + 1 + 1 + 1) [.int .i64 f0.k, .int .i64 f0.i, .int .i64 f1.k, .int .i64 f1.i] ∧ Below w.heap.size w w')) (by kernel_rfl) ?_ (fun hHeld => ?_)
       ·exact ⟨R3.out.mine.drew, R4.out.mine.drew, HB.out.drew⟩
       try dsimp only at hHeld
       refine Rgn.take 0 (v := .agg #[.int .i64 (g0.ag 0), .int .i64 (g0.ag 1), .int .i64 (g0.ag 2), .int .i64 (g0.ag 3), .int .i64 (g0.ag 4), .int .i64 (g0.ag 5), .int .i64 (g0.ag 6), .int .i64 (g0.ag 7), .int .i64 g0.port, .int .i64 g0.age, .int .i64 g0.hold, .int .i64 g0.pos, .int .i64 (g1.ag 0), .int .i64 (g1.ag 1), .int .i64 (g1.ag 2), .int .i64 (g1.ag 3), .int .i64 (g1.ag 4), .int .i64 (g1.ag 5), .int .i64 (g1.ag 6), .int .i64 (g1.ag 7), .int .i64 g1.port, .int .i64 g1.age, .int .i64 g1.hold, .int .i64 g1.pos]) rfl (by kernel_rfl) (by kernel_rfl) (by kernel_rfl) (fun _ _ _ h => h) (by kernel_rfl) (fun wS hSw => Kit.exec_load 29 (.tmp 8) rfl (w.heap.size + 1 + 1 + 1) 0 rfl [.int .i64 (g0.ag 0), .int .i64 (g0.ag 1), .int .i64 (g0.ag 2), .int .i64 (g0.ag 3), .int .i64 (g0.ag 4), .int .i64 (g0.ag 5), .int .i64 (g0.ag 6), .int .i64 (g0.ag 7), .int .i64 g0.port, .int .i64 g0.age, .int .i64 g0.hold, .int .i64 g0.pos, .int .i64 (g1.ag 0), .int .i64 (g1.ag 1), .int .i64 (g1.ag 2), .int .i64 (g1.ag 3), .int .i64 (g1.ag 4), .int .i64 (g1.ag 5), .int .i64 (g1.ag 6), .int .i64 (g1.ag 7), .int .i64 g1.port, .int .i64 g1.age, .int .i64 g1.hold, .int .i64 g1.pos] _ hSw.1.r Tryz.underlying29 rfl sizeHubs) hHeld ?_
       try simp only [Act.put, Rgn.a, Rgn.b, Rgn.c]
       refine Rgn.take 1 (v := .agg #[.int .i64 f0.k, .int .i64 f0.i, .int .i64 f1.k, .int .i64 f1.i]) rfl (by kernel_rfl) (by kernel_rfl) (by kernel_rfl) (fun _ _ _ h => h) (by kernel_rfl) (fun wS hSw => Kit.exec_load 46 (.tmp 9) rfl (w.heap.size + 1 + 1 + 1 + 1) 0 rfl [.int .i64 f0.k, .int .i64 f0.i, .int .i64 f1.k, .int .i64 f1.i] _ hSw.2.1.r Tryz.underlying46 rfl sizeFrs) hHeld ?_
       try simp only [Act.put, Rgn.a, Rgn.b, Rgn.c]
       refine Rgn.one 2 rfl (by kernel_rfl) (fun K hK => ?_)
       rw [if_pos (by kernel_rfl)]
       have hMine := hHeld.1
       refine Kit.wp_store_mine 29 (.tmp 8) (.tmp 62) rfl (w.heap.size + 1 + 1 + 1) [.int .i64 (g0.ag 0), .int .i64 (g0.ag 1), .int .i64 (g0.ag 2), .int .i64 (g0.ag 3), .int .i64 (g0.ag 4), .int .i64 (g0.ag 5), .int .i64 (g0.ag 6), .int .i64 (g0.ag 7), .int .i64 g0.port, .int .i64 g0.age, .int .i64 g0.hold, .int .i64 g0.pos, .int .i64 (g1.ag 0), .int .i64 (g1.ag 1), .int .i64 (g1.ag 2), .int .i64 (g1.ag 3), .int .i64 (g1.ag 4), .int .i64 (g1.ag 5), .int .i64 (g1.ag 6), .int .i64 (g1.ag 7), .int .i64 g1.port, .int .i64 g1.age, .int .i64 g1.hold, .int .i64 g1.pos] rfl rfl hMine rfl sizeHubs (by intro v hv; simp only [List.mem_cons, List.not_mem_nil, or_false] at hv; rcases hv with rfl | rfl | rfl | rfl | rfl | rfl | rfl | rfl | rfl | rfl | rfl | rfl | rfl | rfl | rfl | rfl | rfl | rfl | rfl | rfl | rfl | rfl | rfl | rfl <;> rfl) ?_
       intro WS hWS
       have hS := And.intro (hHeld.1.sameS hWS rfl) (And.intro (hHeld.2.1.farS hWS (by omega)) (Kit.below_of hHeld.2.2 hWS (by omega)))
       refine hK.out _ _ hS (fun hHeld2 => ?_)
       clear hK K hWS hMine hHeld
       have hHeld := hHeld2
       clear hHeld2 hS
       try dsimp only at hHeld
       try simp only [Act.put, Rgn.a, Rgn.b, Rgn.c]
       refine Rgn.one 3 rfl (by kernel_rfl) (fun K hK => ?_)
       rw [if_pos (by kernel_rfl)]
       have hMine := hHeld.2.1
       refine Kit.wp_store_mine 46 (.tmp 9) (.tmp 63) rfl (w.heap.size + 1 + 1 + 1 + 1) [.int .i64 f0.k, .int .i64 f0.i, .int .i64 f1.k, .int .i64 f1.i] rfl rfl hMine rfl sizeFrs (by intro v hv; simp only [List.mem_cons, List.not_mem_nil, or_false] at hv; rcases hv with rfl | rfl | rfl | rfl <;> rfl) ?_
       intro WS hWS
       have hS := And.intro (hHeld.1.farS hWS (by omega)) (And.intro (hHeld.2.1.sameS hWS rfl) (Kit.below_of hHeld.2.2 hWS (by omega)))
       refine hK.out _ _ hS (fun hHeld2 => ?_)
       clear hK K hWS hMine hHeld
       have hHeld := hHeld2
       clear hHeld2 hS
       try dsimp only at hHeld
       try simp only [Act.put, Rgn.a, Rgn.b, Rgn.c]
       refine Rgn.take 4 (v := ?_) rfl (by kernel_rfl) (by kernel_rfl) (by kernel_rfl) (fun _ _ _ h => h) (by kernel_rfl) ?_ hHeld ?_
       rotate_left
       ·intro w hSw
        (try dsimp only at hSw)
        go_simp
        try with_reducible rfl
       try simp only [Act.put, Rgn.a, Rgn.b, Rgn.c]
       refine wpAnyH_done (by kernel_rfl) ?_ _
       go_wp2_with fail
       exact bodyPost_ret (Kit.res_cct Tryz.results69 _ _ (hHeld.1.var Tryz.underlying29 rfl sizeHubs (by simp)) (hHeld.2.1.var Tryz.underlying46 rfl sizeFrs (by simp))) rfl ⟨rfl, hHeld.2.2⟩
end Link
end Go.Proofs.YtgiojagdmglinaaGreatDoor
