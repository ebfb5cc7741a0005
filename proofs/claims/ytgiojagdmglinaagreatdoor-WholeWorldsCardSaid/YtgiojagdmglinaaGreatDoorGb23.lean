/-
  Part 23 of a merged text.
-/
import Derived.Test.YtgiojagdmglinaaGreatDoorGb10
import Derived.Deep.RegionWith
import Derived.BigRegion
set_option linter.unusedVariables false
set_option linter.unusedSimpArgs false
set_option maxRecDepth 100000
namespace Go.Proofs.YtgiojagdmglinaaGreatDoor
open Go.RowKit
namespace Tk
def one (x : Wd) (ch : Ch) (f0 f1 : Fr) (i : Nat) (y : Nd) : Nd :=
 if y.md = 0 then (if x.power.getD i 0 ≤ x.tick then Wm.become y 1 else y) else Wm.act x.n y (heard x.n x.c x.v ch 0 i f0) (heard x.n x.c x.v ch 1 i f1)
set_option maxHeartbeats 8000000 in
theorem one_calls (B i : Nat) (x : Wd) (ch : Ch) (i0 i1 : Value) (f0 f1 : Fr) (y : Nd) (w : World) (R : Kit.Row w B (cells x ch i0 i1 f0 f1)) (hc : ch.There w) (hx : x.Right) (ht : Whole w x.pa x.n x.power) (hi : i < x.n)
  (hy : Wm.NRight x.n i y) (s0 : Wm.Sent x.n f0) (s1 : Wm.Sent x.n f1) :
  Calls Tryz.prog 72 #[.pointer (some ⟨B, 0, none⟩), .int .i64 i, .agg #[.int .i64 y.id, .int .i64 y.md, .int .i64 y.ct, .int .i64 y.ps]] w
   fun e w' => e = .returned (.agg #[.int .i64 (one x ch f0 f1 i y).id, .int .i64 (one x ch f0 f1 i y).md, .int .i64 (one x ch f0 f1 i y).ct, .int .i64 (one x ch f0 f1 i y).ps]) ∧ Below w.heap.size w w' := by
 have h3 := hx.lo
 have h8 := hx.hi
 have kon := fun W (hW : Below w.heap.size w W) => Flt.on_calls x.pa x.n x.pc i x.power x.tick W (ht.below hW) hi (by omega)
 have kw := fun W => Nod.wake_calls y.id y.md y.ct y.ps W
 have ks0 := fun W (hR : Kit.Row W B (cells x ch i0 i1 f0 f1)) (hW : Below w.heap.size w W) => sent0_calls B i x ch i0 i1 f0 f1 W hR (hc.below hW)
 have ks1 := fun W (hR : Kit.Row W B (cells x ch i0 i1 f0 f1)) (hW : Below w.heap.size w W) => sent1_calls B i x ch i0 i1 f0 f1 W hR (hc.below hW)
 have z0 := out_size h8 x.c x.v ch 0 i s0
 have z1 := out_size h8 x.c x.v ch 1 i s1
 have kh := fun W => Hear.of_calls (x.n : Int) (Flt.out x.c x.v ch 0 i f0) (Flt.out x.c x.v ch 1 i f1) W (by omega) (by omega) (by omega) (by omega)
 have hh0 : Hear.one (x.n : Int) (Flt.out x.c x.v ch 0 i f0) = heard x.n x.c x.v ch 0 i f0 := rfl
 have hh1 : Hear.one (x.n : Int) (Flt.out x.c x.v ch 1 i f1) = heard x.n x.c x.v ch 1 i f1 := rfl
 rw [hh0, hh1] at kh
 have ka := fun (h0 : y.md ≠ 0) W => Act.step_calls x.n i y (heard x.n x.c x.v ch 0 i f0) (heard x.n x.c x.v ch 1 i f1) W h3 h8 hi hy h0 (heard_sent h8 _ _ _ _ _ s0) (heard_sent h8 _ _ _ _ _ s1)
 have hone : one x ch f0 f1 i y = if y.md = 0 then (if x.power.getD i 0 ≤ x.tick then Wm.become y 1 else y) else Wm.act x.n y (heard x.n x.c x.v ch 0 i f0) (heard x.n x.c x.v ch 1 i f1) := rfl
 generalize one x ch f0 f1 i y = a at *
 generalize heard x.n x.c x.v ch 0 i f0 = p at *
 generalize heard x.n x.c x.v ch 1 i f1 = q at *
 generalize Flt.out x.c x.v ch 0 i f0 = m0 at *
 generalize Flt.out x.c x.v ch 1 i f1 = m1 at *
 generalize x.power.getD i 0 = pw at *
 have R := Lib.hid R
 have KON := Lib.hid kon
 have KW := Lib.hid kw
 have KS0 := Lib.hid ks0
 have KS1 := Lib.hid ks1
 have KH := Lib.hid kh
 have hltB := R.out.lt
 clear kon kw ks0 ks1 kh hc hx ht hi hy s0 s1 z0 z1 hh0 hh1 h3 h8
 by_cases hm : y.md = 0
 ·rw [if_pos hm] at hone
  have gm : (y.md == 0) = true := by rw [hm]; rfl
  clear hm ka
  go_enter Tryz.func72, Tryz.ntmps72
  go_wp2_with fail
  have R0 : Kit.Row ((w.alloc (.cells #[.int .i64 y.id, .int .i64 y.md, .int .i64 y.ct, .int .i64 y.ps] 60)).alloc (.cells #[.int .i64 0, .int .i64 0, .int .i64 0, .int .i64 0] 60)) B (cells x ch i0 i1 f0 f1) := (R.out.alloc _).alloc _
  have X0 : Kit.Row ((w.alloc (.cells #[.int .i64 y.id, .int .i64 y.md, .int .i64 y.ct, .int .i64 y.ps] 60)).alloc (.cells #[.int .i64 0, .int .i64 0, .int .i64 0, .int .i64 0] 60)) w.heap.size [.int .i64 y.id, .int .i64 y.md, .int .i64 y.ct, .int .i64 y.ps] := (Kit.Row.new w _ _).alloc _
  have X1 : Kit.Row ((w.alloc (.cells #[.int .i64 y.id, .int .i64 y.md, .int .i64 y.ct, .int .i64 y.ps] 60)).alloc (.cells #[.int .i64 0, .int .i64 0, .int .i64 0, .int .i64 0] 60)) (w.heap.size + 1) [.int .i64 0, .int .i64 0, .int .i64 0, .int .i64 0] := Kit.Row.newAt _ _ _ _ (by simp)
  have HB : Below w.heap.size w ((w.alloc (.cells #[.int .i64 y.id, .int .i64 y.md, .int .i64 y.ct, .int .i64 y.ps] 60)).alloc (.cells #[.int .i64 0, .int .i64 0, .int .i64 0, .int .i64 0] 60)) := Kit.alloc2 ..
  generalize ((w.alloc (.cells #[.int .i64 y.id, .int .i64 y.md, .int .i64 y.ct, .int .i64 y.ps] 60)).alloc (.cells #[.int .i64 0, .int .i64 0, .int .i64 0, .int .i64 0] 60)) = w2 at *
  have R0' := Lib.hid R0
  have X0' := Lib.hid X0
  have X1' := Lib.hid X1
  have HB' := Lib.hid HB
  have lt1 := X1.lt
  have c1 := R0.at_ 1 (.int .i64 x.tick) rfl
  have c4 := R0.at_ 4 (.slice x.pa x.n x.pc) rfl
  have hbd := Lib.hid HB.drew
  clear R0 X0 X1 HB
  go_region_held3 (fun w' => w'.cell? ⟨B, 1, none⟩ = some (.int .i64 x.tick) ∧ w'.cell? ⟨B, 4, none⟩ = some (.slice x.pa x.n x.pc)) (go_keep) ((go_at_call 100; refine (KON.out _ hbd.out).mono ?_; rintro e wn ⟨rfl, rfl⟩))
  clear c1 c4
  have X3 := Lib.hid X0'.out.drew
  have X3' := Lib.hid X1'.out.drew
  generalize w2.drew = w3 at *
  by_cases hp : pw ≤ x.tick
  ·rw [if_pos hp] at hone
   subst hone
   have x0 := X3.out.at_ 0 (.int .i64 y.id) rfl
   have x1 := X3.out.at_ 1 (.int .i64 y.md) rfl
   have x2 := X3.out.at_ 2 (.int .i64 y.ct) rfl
   have x3 := X3.out.at_ 3 (.int .i64 y.ps) rfl
   go_wp2_with fail
   refine (KW.out _).mono ?_
   rintro e w4 ⟨rfl, b⟩
   have X4 := X3.out.below b
   have X4' := X3'.out.below b
   have HB4 := Lib.hid (hbd.out.trans (b.mono hbd.out.size))
   have XX := Lib.hid (X4'.far w.heap.size 0 (.int .i64 y.id) (by omega) |>.far w.heap.size 1 (.int .i64 1) (by omega) |>.far w.heap.size 2 (.int .i64 0) (by omega) |>.far w.heap.size 3 (.int .i64 0) (by omega))
   clear b x0 x1 x2 x3
   have hlt := (X4').lt
   have hlt0 := (X4).lt
   have x0 := (X4).at_ 0 (.int .i64 y.id) rfl
   have x1 := (X4).at_ 1 (.int .i64 y.md) rfl
   have x2 := (X4).at_ 2 (.int .i64 y.ct) rfl
   have x3 := (X4).at_ 3 (.int .i64 y.ps) rfl
   have y0 := (X4').at_ 0 (.int .i64 0) rfl
   have z0 := (X4').free 0 (by simp)
   have u0 := (X4).free 0 (by simp)
   have y1 := (X4').at_ 1 (.int .i64 0) rfl
   have z1 := (X4').free 1 (by simp)
   have u1 := (X4).free 1 (by simp)
   have y2 := (X4').at_ 2 (.int .i64 0) rfl
   have z2 := (X4').free 2 (by simp)
   have u2 := (X4).free 2 (by simp)
   have y3 := (X4').at_ 3 (.int .i64 0) rfl
   have z3 := (X4').free 3 (by simp)
   have u3 := (X4).free 3 (by simp)
   clear X4 X4'
   go_wp2_with fail
   have r5 := ((((XX.out).set 0 (.int .i64 y.id) (by simp)).set 1 (.int .i64 1) (by simp)).set 2 (.int .i64 0) (by simp)).set 3 (.int .i64 0) (by simp)
   have p0 := r5.at_ 0 (.int .i64 y.id) rfl
   have p1 := r5.at_ 1 (.int .i64 1) rfl
   have p2 := r5.at_ 2 (.int .i64 0) rfl
   have p3 := r5.at_ 3 (.int .i64 0) rfl
   clear r5
   refine bodyPost_ret (v := .agg #[.int .i64 y.id, .int .i64 1, .int .i64 0, .int .i64 0]) (by simp [results, Tryz.results72, go_sem, p0, p1, p2, p3, hlt]) rfl ⟨rfl, ?_⟩
   repeat' (first | (with_reducible exact HB4.out) | (with_reducible refine Below.setCell ?_ ?_ _) | (with_reducible refine Below.alloc ?_ ?_ _) | (with_reducible refine Below.drew ?_))
   all_goals (first | omega | (simp; done) | (simp; omega))
  ·rw [if_neg hp] at hone
   subst hone
   have hlt := (X3'.out).lt
   have hlt0 := (X3.out).lt
   have x0 := (X3.out).at_ 0 (.int .i64 a.id) rfl
   have x1 := (X3.out).at_ 1 (.int .i64 a.md) rfl
   have x2 := (X3.out).at_ 2 (.int .i64 a.ct) rfl
   have x3 := (X3.out).at_ 3 (.int .i64 a.ps) rfl
   have y0 := (X3'.out).at_ 0 (.int .i64 0) rfl
   have z0 := (X3'.out).free 0 (by simp)
   have u0 := (X3.out).free 0 (by simp)
   have y1 := (X3'.out).at_ 1 (.int .i64 0) rfl
   have z1 := (X3'.out).free 1 (by simp)
   have u1 := (X3.out).free 1 (by simp)
   have y2 := (X3'.out).at_ 2 (.int .i64 0) rfl
   have z2 := (X3'.out).free 2 (by simp)
   have u2 := (X3.out).free 2 (by simp)
   have y3 := (X3'.out).at_ 3 (.int .i64 0) rfl
   have z3 := (X3'.out).free 3 (by simp)
   have u3 := (X3.out).free 3 (by simp)
   go_wp2_with fail
   have r5 := ((((X3'.out).set 0 (.int .i64 a.id) (by simp)).set 1 (.int .i64 a.md) (by simp)).set 2 (.int .i64 a.ct) (by simp)).set 3 (.int .i64 a.ps) (by simp)
   have p0 := r5.at_ 0 (.int .i64 a.id) rfl
   have p1 := r5.at_ 1 (.int .i64 a.md) rfl
   have p2 := r5.at_ 2 (.int .i64 a.ct) rfl
   have p3 := r5.at_ 3 (.int .i64 a.ps) rfl
   clear r5
   refine bodyPost_ret (v := .agg #[.int .i64 a.id, .int .i64 a.md, .int .i64 a.ct, .int .i64 a.ps]) (by simp [results, Tryz.results72, go_sem, p0, p1, p2, p3, hlt]) rfl ⟨rfl, ?_⟩
   repeat' (first | (with_reducible exact hbd.out) | (with_reducible refine Below.setCell ?_ ?_ _) | (with_reducible refine Below.alloc ?_ ?_ _) | (with_reducible refine Below.drew ?_))
   all_goals (first | omega | (simp; done) | (simp; omega))
 ·rw [if_neg hm] at hone
  have gm : (y.md == 0) = false := beq_eq_false_iff_ne.2 hm
  have KA := Lib.hid (ka hm)
  rw [← hone] at KA
  clear hm ka hone
  go_enter Tryz.func72, Tryz.ntmps72
  go_wp2_with fail
  have R0 : Kit.Row ((w.alloc (.cells #[.int .i64 y.id, .int .i64 y.md, .int .i64 y.ct, .int .i64 y.ps] 60)).alloc (.cells #[.int .i64 0, .int .i64 0, .int .i64 0, .int .i64 0] 60)) B (cells x ch i0 i1 f0 f1) := (R.out.alloc _).alloc _
  have X0 : Kit.Row ((w.alloc (.cells #[.int .i64 y.id, .int .i64 y.md, .int .i64 y.ct, .int .i64 y.ps] 60)).alloc (.cells #[.int .i64 0, .int .i64 0, .int .i64 0, .int .i64 0] 60)) w.heap.size [.int .i64 y.id, .int .i64 y.md, .int .i64 y.ct, .int .i64 y.ps] := (Kit.Row.new w _ _).alloc _
  have X1 : Kit.Row ((w.alloc (.cells #[.int .i64 y.id, .int .i64 y.md, .int .i64 y.ct, .int .i64 y.ps] 60)).alloc (.cells #[.int .i64 0, .int .i64 0, .int .i64 0, .int .i64 0] 60)) (w.heap.size + 1) [.int .i64 0, .int .i64 0, .int .i64 0, .int .i64 0] := Kit.Row.newAt _ _ _ _ (by simp)
  have HB : Below w.heap.size w ((w.alloc (.cells #[.int .i64 y.id, .int .i64 y.md, .int .i64 y.ct, .int .i64 y.ps] 60)).alloc (.cells #[.int .i64 0, .int .i64 0, .int .i64 0, .int .i64 0] 60)) := Kit.alloc2 ..
  generalize ((w.alloc (.cells #[.int .i64 y.id, .int .i64 y.md, .int .i64 y.ct, .int .i64 y.ps] 60)).alloc (.cells #[.int .i64 0, .int .i64 0, .int .i64 0, .int .i64 0] 60)) = w2 at *
  have R0' := Lib.hid R0
  have X0' := Lib.hid X0
  have X1' := Lib.hid X1
  have HB' := Lib.hid HB
  have lt1 := X1.lt
  have c0 := R0.at_ 0 (.int .i64 x.n) rfl
  have RR := Lib.hid R0.drew
  have XA := Lib.hid X0.drew
  have XB := Lib.hid X1.drew
  have HH := Lib.hid HB.drew
  clear R0 X0 X1 HB
  refine wp_region_held_drew (S := (fun w' => w'.cell? ⟨B, 0, none⟩ = some (.int .i64 x.n))) (by kernel_rfl) ?_ (fun hHeld => ?_)
  ·go_keep
  refine Rgn.tk 0 rfl ?_
  try simp only [Act.put, Rgn.a, Rgn.b, Rgn.c]
  refine Rgn.tk 1 rfl ?_
  try simp only [Act.put, Rgn.a, Rgn.b, Rgn.c]
  refine Rgn.tk 2 rfl ?_
  try simp only [Act.put, Rgn.a, Rgn.b, Rgn.c]
  refine Rgn.tk 3 rfl ?_
  try simp only [Act.put, Rgn.a, Rgn.b, Rgn.c]
  refine Rgn.tk 4 rfl ?_
  try simp only [Act.put, Rgn.a, Rgn.b, Rgn.c]
  refine Rgn.tk 5 rfl ?_
  try simp only [Act.put, Rgn.a, Rgn.b, Rgn.c]
  refine Rgn.tk 6 rfl ?_
  try simp only [Act.put, Rgn.a, Rgn.b, Rgn.c]
  refine Rgn.tk 8 rfl ?_
  try simp only [Act.put, Rgn.a, Rgn.b, Rgn.c]
  refine Rgn.tk 9 rfl ?_
  try simp only [Act.put, Rgn.a, Rgn.b, Rgn.c]
  refine Rgn.two 7 15 rfl rfl (by kernel_rfl) (fun K hK => ?_) (fun K hK => ?_)
  ·go_simp
   refine (KS0.out _ RR.out HH.out).mono ?_
   rintro e wn ⟨rfl, bn⟩
   replace c0 := Kit.cell_below bn c0
   replace RR := Lib.hid (RR.out.below bn)
   replace XA := Lib.hid (XA.out.below bn)
   replace XB := Lib.hid (XB.out.below bn)
   replace HH := Lib.hid (HH.out.trans (bn.mono HH.out.size))
   clear bn
   try go_simp
   refine hK.out _ _ ?_ (fun hHeld => ?_)
   ·first | go_keep | ((try dsimp only); (repeat' apply And.intro) <;> first | assumption | go_simp)
   clear hK K
   try simp only [Act.put, Rgn.a, Rgn.b, Rgn.c]
   refine Rgn.two 10 15 rfl rfl (by kernel_rfl) (fun K hK => ?_) (fun K hK => ?_)
   ·go_simp
    refine (KS1.out _ RR.out HH.out).mono ?_
    rintro e wn ⟨rfl, bn⟩
    replace c0 := Kit.cell_below bn c0
    replace RR := Lib.hid (RR.out.below bn)
    replace XA := Lib.hid (XA.out.below bn)
    replace XB := Lib.hid (XB.out.below bn)
    replace HH := Lib.hid (HH.out.trans (bn.mono HH.out.size))
    clear bn
    try go_simp
    refine hK.out _ _ ?_ (fun hHeld => ?_)
    ·first | go_keep | ((try dsimp only); (repeat' apply And.intro) <;> first | assumption | go_simp)
    clear hK K
    try simp only [Act.put, Rgn.a, Rgn.b, Rgn.c]
    refine Rgn.two 11 15 rfl rfl (by kernel_rfl) (fun K hK => ?_) (fun K hK => ?_)
    ·go_simp
     refine (KH.out _).mono ?_
     rintro e wn ⟨rfl, bn⟩
     replace c0 := Kit.cell_below bn c0
     replace RR := Lib.hid (RR.out.below bn)
     replace XA := Lib.hid (XA.out.below bn)
     replace XB := Lib.hid (XB.out.below bn)
     replace HH := Lib.hid (HH.out.trans (bn.mono HH.out.size))
     clear bn
     try go_simp
     refine hK.out _ _ ?_ (fun hHeld => ?_)
     ·first | go_keep | ((try dsimp only); (repeat' apply And.intro) <;> first | assumption | go_simp)
     clear hK K
     try simp only [Act.put, Rgn.a, Rgn.b, Rgn.c]
     refine Rgn.tk 12 rfl ?_
     try simp only [Act.put, Rgn.a, Rgn.b, Rgn.c]
     refine Rgn.tk 13 rfl ?_
     try simp only [Act.put, Rgn.a, Rgn.b, Rgn.c]
     refine Rgn.tk 14 rfl ?_
     try simp only [Act.put, Rgn.a, Rgn.b, Rgn.c]
     refine Rgn.one 15 rfl (by kernel_rfl) (fun K hK => ?_)
     go_simp
     have HR := Lib.hid (Kit.Row.new wn #[.int .i64 0, .int .i64 0, .int .i64 0, .int .i64 0] 46)
     have hNx := XB.out.lt
     have hNB := RR.out.lt
     replace c0 := Kit.cell_below (Kit.alloc1 wn #[.int .i64 0, .int .i64 0, .int .i64 0, .int .i64 0] 46) c0
     replace RR := Lib.hid (RR.out.alloc (.cells #[.int .i64 0, .int .i64 0, .int .i64 0, .int .i64 0] 46))
     replace XA := Lib.hid (XA.out.alloc (.cells #[.int .i64 0, .int .i64 0, .int .i64 0, .int .i64 0] 46))
     replace XB := Lib.hid (XB.out.alloc (.cells #[.int .i64 0, .int .i64 0, .int .i64 0, .int .i64 0] 46))
     replace HH := Lib.hid (HH.out.alloc HH.out.size (.cells #[.int .i64 0, .int .i64 0, .int .i64 0, .int .i64 0] 46))
     generalize wn.heap.size = N at HR hNx hNB ⊢
     generalize wn.alloc (.cells #[.int .i64 0, .int .i64 0, .int .i64 0, .int .i64 0] 46) = wv at *
     have g0 := HR.out.at_ 0 (.int .i64 0) rfl
     have z0 := HR.out.free 0 (by simp)
     have g1 := HR.out.at_ 1 (.int .i64 0) rfl
     have z1 := HR.out.free 1 (by simp)
     have g2 := HR.out.at_ 2 (.int .i64 0) rfl
     have z2 := HR.out.free 2 (by simp)
     have g3 := HR.out.at_ 3 (.int .i64 0) rfl
     have z3 := HR.out.free 3 (by simp)
     refine hK.out _ _ ?_ (fun hHeld => ?_)
     ·first | go_keep | ((try dsimp only); (repeat' apply And.intro) <;> first | assumption | go_simp)
     clear hK K
     try simp only [Act.put, Rgn.a, Rgn.b, Rgn.c]
     refine Rgn.one 16 rfl (by kernel_rfl) (fun K hK => ?_)
     go_simp
     have hz := RR.out
     replace RR := Lib.hid ((((RR.out.far (N) 0 (.int .i64 p.k) (by omega)).far (N) 1 (.int .i64 p.i) (by omega)).far (N) 2 (.int .i64 q.k) (by omega)).far (N) 3 (.int .i64 q.i) (by omega))
     replace XA := Lib.hid ((((XA.out.far (N) 0 (.int .i64 p.k) (by omega)).far (N) 1 (.int .i64 p.i) (by omega)).far (N) 2 (.int .i64 q.k) (by omega)).far (N) 3 (.int .i64 q.i) (by omega))
     replace XB := Lib.hid ((((XB.out.far (N) 0 (.int .i64 p.k) (by omega)).far (N) 1 (.int .i64 p.i) (by omega)).far (N) 2 (.int .i64 q.k) (by omega)).far (N) 3 (.int .i64 q.i) (by omega))
     have HQ := Lib.hid (((((HR.out.set 0 (.int .i64 p.k) (by simp)).set 1 (.int .i64 p.i) (by simp)).set 2 (.int .i64 q.k) (by simp)).set 3 (.int .i64 q.i) (by simp)).cast (show _ = [.int .i64 p.k, .int .i64 p.i, .int .i64 q.k, .int .i64 q.i] from rfl))
     have hNw : w.heap.size ≤ N := by omega
     replace HH := Lib.hid ((((HH.out.setCell (p := ⟨N, 0, none⟩) (hNw) (.int .i64 p.k)).setCell (p := ⟨N, 1, none⟩) (hNw) (.int .i64 p.i)).setCell (p := ⟨N, 2, none⟩) (hNw) (.int .i64 q.k)).setCell (p := ⟨N, 3, none⟩) (hNw) (.int .i64 q.i))
     generalize ((((wv.setCell ⟨N, 0, none⟩ (.int .i64 p.k)).setCell ⟨N, 1, none⟩ (.int .i64 p.i)).setCell ⟨N, 2, none⟩ (.int .i64 q.k)).setCell ⟨N, 3, none⟩ (.int .i64 q.i)) = wz at *
     replace c0 := RR.out.at_ 0 (.int .i64 x.n) rfl
     clear hz g0 z0 g1 z1 g2 z2 g3 z3
     refine hK.out _ _ ?_ (fun hHeld => ?_)
     ·first | go_keep | ((try dsimp only); (repeat' apply And.intro) <;> first | assumption | go_simp)
     clear hK K
     try simp only [Act.put, Rgn.a, Rgn.b, Rgn.c]
     refine Rgn.tk 17 rfl ?_
     try simp only [Act.put, Rgn.a, Rgn.b, Rgn.c]
     refine wpAnyH_done (by kernel_rfl) ?_ _
     go_wp2_with fail
     have x0 := XA.out.at_ 0 (.int .i64 y.id) rfl
     have x1 := XA.out.at_ 1 (.int .i64 y.md) rfl
     have x2 := XA.out.at_ 2 (.int .i64 y.ct) rfl
     have x3 := XA.out.at_ 3 (.int .i64 y.ps) rfl
     have h0 := HQ.out.at_ 0 (.int .i64 p.k) rfl
     have h1 := HQ.out.at_ 1 (.int .i64 p.i) rfl
     have h2 := HQ.out.at_ 2 (.int .i64 q.k) rfl
     have h3 := HQ.out.at_ 3 (.int .i64 q.i) rfl
     go_region_with (go_at_call 104; refine (KA.out _).mono ?_; rintro e wa ⟨rfl, ba⟩; have u0 := (XA.out.drew.below ba).free 0 (by simp); have u1 := (XA.out.drew.below ba).free 1 (by simp); have u2 := (XA.out.drew.below ba).free 2 (by simp); have u3 := (XA.out.drew.below ba).free 3 (by simp); replace x0 := Kit.cell_below ba x0; replace x1 := Kit.cell_below ba x1; replace x2 := Kit.cell_below ba x2; replace x3 := Kit.cell_below ba x3; have XA2 := Lib.hid (XA.out.drew.below ba); have XB2 := Lib.hid (XB.out.drew.below ba); have HH2 := Lib.hid (HH.out.drew.trans (ba.mono HH.out.drew.size)); clear ba)
     all_goals
      have XX := Lib.hid ((((XB2.out.far (w.heap.size) 0 (.int .i64 a.id) (by omega)).far (w.heap.size) 1 (.int .i64 a.md) (by omega)).far (w.heap.size) 2 (.int .i64 a.ct) (by omega)).far (w.heap.size) 3 (.int .i64 a.ps) (by omega))
      have XY := Lib.hid (((((XA2.out.set 0 (.int .i64 a.id) (by simp)).set 1 (.int .i64 a.md) (by simp)).set 2 (.int .i64 a.ct) (by simp)).set 3 (.int .i64 a.ps) (by simp)).cast (show _ = [.int .i64 a.id, .int .i64 a.md, .int .i64 a.ct, .int .i64 a.ps] from rfl))
      have HZ := Lib.hid ((((HH2.out.setCell (p := ⟨w.heap.size, 0, none⟩) (Nat.le_refl _) (.int .i64 a.id)).setCell (p := ⟨w.heap.size, 1, none⟩) (Nat.le_refl _) (.int .i64 a.md)).setCell (p := ⟨w.heap.size, 2, none⟩) (Nat.le_refl _) (.int .i64 a.ct)).setCell (p := ⟨w.heap.size, 3, none⟩) (Nat.le_refl _) (.int .i64 a.ps))
      generalize ((((wa.setCell ⟨w.heap.size, 0, none⟩ (.int .i64 a.id)).setCell ⟨w.heap.size, 1, none⟩ (.int .i64 a.md)).setCell ⟨w.heap.size, 2, none⟩ (.int .i64 a.ct)).setCell ⟨w.heap.size, 3, none⟩ (.int .i64 a.ps)) = wy at *
      clear x0 u0 h0 x1 u1 h1 x2 u2 h2 x3 u3 h3
      have hlt := (XX.out).lt
      have hlt0 := (XY.out).lt
      have x0 := (XY.out).at_ 0 (.int .i64 a.id) rfl
      have x1 := (XY.out).at_ 1 (.int .i64 a.md) rfl
      have x2 := (XY.out).at_ 2 (.int .i64 a.ct) rfl
      have x3 := (XY.out).at_ 3 (.int .i64 a.ps) rfl
      have y0 := (XX.out).at_ 0 (.int .i64 0) rfl
      have z0 := (XX.out).free 0 (by simp)
      have u0 := (XY.out).free 0 (by simp)
      have y1 := (XX.out).at_ 1 (.int .i64 0) rfl
      have z1 := (XX.out).free 1 (by simp)
      have u1 := (XY.out).free 1 (by simp)
      have y2 := (XX.out).at_ 2 (.int .i64 0) rfl
      have z2 := (XX.out).free 2 (by simp)
      have u2 := (XY.out).free 2 (by simp)
      have y3 := (XX.out).at_ 3 (.int .i64 0) rfl
      have z3 := (XX.out).free 3 (by simp)
      have u3 := (XY.out).free 3 (by simp)
      go_wp2_with fail
      have r5 := ((((XX.out).set 0 (.int .i64 a.id) (by simp)).set 1 (.int .i64 a.md) (by simp)).set 2 (.int .i64 a.ct) (by simp)).set 3 (.int .i64 a.ps) (by simp)
      have p0 := r5.at_ 0 (.int .i64 a.id) rfl
      have p1 := r5.at_ 1 (.int .i64 a.md) rfl
      have p2 := r5.at_ 2 (.int .i64 a.ct) rfl
      have p3 := r5.at_ 3 (.int .i64 a.ps) rfl
      clear r5
      refine bodyPost_ret (v := .agg #[.int .i64 a.id, .int .i64 a.md, .int .i64 a.ct, .int .i64 a.ps]) (by simp [results, Tryz.results72, go_sem, p0, p1, p2, p3, hlt]) rfl ⟨rfl, ?_⟩
      repeat' (first | (with_reducible exact HZ.out) | (with_reducible refine Below.setCell ?_ ?_ _) | (with_reducible refine Below.alloc ?_ ?_ _) | (with_reducible refine Below.drew ?_))
      all_goals (first | omega | (simp; done) | (simp; omega))
    ·go_simp
     have HR := Lib.hid (Kit.Row.new wn #[.int .i64 0, .int .i64 0, .int .i64 0, .int .i64 0] 46)
     have hNx := XB.out.lt
     have hNB := RR.out.lt
     replace c0 := Kit.cell_below (Kit.alloc1 wn #[.int .i64 0, .int .i64 0, .int .i64 0, .int .i64 0] 46) c0
     replace RR := Lib.hid (RR.out.alloc (.cells #[.int .i64 0, .int .i64 0, .int .i64 0, .int .i64 0] 46))
     replace XA := Lib.hid (XA.out.alloc (.cells #[.int .i64 0, .int .i64 0, .int .i64 0, .int .i64 0] 46))
     replace XB := Lib.hid (XB.out.alloc (.cells #[.int .i64 0, .int .i64 0, .int .i64 0, .int .i64 0] 46))
     replace HH := Lib.hid (HH.out.alloc HH.out.size (.cells #[.int .i64 0, .int .i64 0, .int .i64 0, .int .i64 0] 46))
     generalize wn.heap.size = N at HR hNx hNB ⊢
     generalize wn.alloc (.cells #[.int .i64 0, .int .i64 0, .int .i64 0, .int .i64 0] 46) = wv at *
     refine hK.out _ _ ?_ (fun hHeld => ?_)
     ·first | go_keep | ((try dsimp only); (repeat' apply And.intro) <;> first | assumption | go_simp)
     clear hK K
     try simp only [Act.put, Rgn.a, Rgn.b, Rgn.c]
     refine Rgn.one 11 rfl (by kernel_rfl) (fun K hK => ?_)
     go_simp
     refine (KH.out _).mono ?_
     rintro e wn ⟨rfl, bn⟩
     replace c0 := Kit.cell_below bn c0
     replace RR := Lib.hid (RR.out.below bn)
     replace XA := Lib.hid (XA.out.below bn)
     replace XB := Lib.hid (XB.out.below bn)
     replace HR := Lib.hid (HR.out.below bn)
     replace HH := Lib.hid (HH.out.trans (bn.mono HH.out.size))
     clear bn
     try go_simp
     have g0 := HR.out.at_ 0 (.int .i64 0) rfl
     have z0 := HR.out.free 0 (by simp)
     have g1 := HR.out.at_ 1 (.int .i64 0) rfl
     have z1 := HR.out.free 1 (by simp)
     have g2 := HR.out.at_ 2 (.int .i64 0) rfl
     have z2 := HR.out.free 2 (by simp)
     have g3 := HR.out.at_ 3 (.int .i64 0) rfl
     have z3 := HR.out.free 3 (by simp)
     refine hK.out _ _ ?_ (fun hHeld => ?_)
     ·first | go_keep | ((try dsimp only); (repeat' apply And.intro) <;> first | assumption | go_simp)
     clear hK K
     try simp only [Act.put, Rgn.a, Rgn.b, Rgn.c]
     refine Rgn.tk 12 rfl ?_
     try simp only [Act.put, Rgn.a, Rgn.b, Rgn.c]
     refine Rgn.tk 13 rfl ?_
     try simp only [Act.put, Rgn.a, Rgn.b, Rgn.c]
     refine Rgn.tk 14 rfl ?_
     try simp only [Act.put, Rgn.a, Rgn.b, Rgn.c]
     refine Rgn.one 16 rfl (by kernel_rfl) (fun K hK => ?_)
     go_simp
     have hz := RR.out
     replace RR := Lib.hid ((((RR.out.far (N) 0 (.int .i64 p.k) (by omega)).far (N) 1 (.int .i64 p.i) (by omega)).far (N) 2 (.int .i64 q.k) (by omega)).far (N) 3 (.int .i64 q.i) (by omega))
     replace XA := Lib.hid ((((XA.out.far (N) 0 (.int .i64 p.k) (by omega)).far (N) 1 (.int .i64 p.i) (by omega)).far (N) 2 (.int .i64 q.k) (by omega)).far (N) 3 (.int .i64 q.i) (by omega))
     replace XB := Lib.hid ((((XB.out.far (N) 0 (.int .i64 p.k) (by omega)).far (N) 1 (.int .i64 p.i) (by omega)).far (N) 2 (.int .i64 q.k) (by omega)).far (N) 3 (.int .i64 q.i) (by omega))
     have HQ := Lib.hid (((((HR.out.set 0 (.int .i64 p.k) (by simp)).set 1 (.int .i64 p.i) (by simp)).set 2 (.int .i64 q.k) (by simp)).set 3 (.int .i64 q.i) (by simp)).cast (show _ = [.int .i64 p.k, .int .i64 p.i, .int .i64 q.k, .int .i64 q.i] from rfl))
     have hNw : w.heap.size ≤ N := by omega
     replace HH := Lib.hid ((((HH.out.setCell (p := ⟨N, 0, none⟩) (hNw) (.int .i64 p.k)).setCell (p := ⟨N, 1, none⟩) (hNw) (.int .i64 p.i)).setCell (p := ⟨N, 2, none⟩) (hNw) (.int .i64 q.k)).setCell (p := ⟨N, 3, none⟩) (hNw) (.int .i64 q.i))
     generalize ((((wn.setCell ⟨N, 0, none⟩ (.int .i64 p.k)).setCell ⟨N, 1, none⟩ (.int .i64 p.i)).setCell ⟨N, 2, none⟩ (.int .i64 q.k)).setCell ⟨N, 3, none⟩ (.int .i64 q.i)) = wz at *
     replace c0 := RR.out.at_ 0 (.int .i64 x.n) rfl
     clear hz g0 z0 g1 z1 g2 z2 g3 z3
     refine hK.out _ _ ?_ (fun hHeld => ?_)
     ·first | go_keep | ((try dsimp only); (repeat' apply And.intro) <;> first | assumption | go_simp)
     clear hK K
     try simp only [Act.put, Rgn.a, Rgn.b, Rgn.c]
     refine Rgn.tk 17 rfl ?_
     try simp only [Act.put, Rgn.a, Rgn.b, Rgn.c]
     refine wpAnyH_done (by kernel_rfl) ?_ _
     go_wp2_with fail
     have x0 := XA.out.at_ 0 (.int .i64 y.id) rfl
     have x1 := XA.out.at_ 1 (.int .i64 y.md) rfl
     have x2 := XA.out.at_ 2 (.int .i64 y.ct) rfl
     have x3 := XA.out.at_ 3 (.int .i64 y.ps) rfl
     have h0 := HQ.out.at_ 0 (.int .i64 p.k) rfl
     have h1 := HQ.out.at_ 1 (.int .i64 p.i) rfl
     have h2 := HQ.out.at_ 2 (.int .i64 q.k) rfl
     have h3 := HQ.out.at_ 3 (.int .i64 q.i) rfl
     go_region_with (go_at_call 104; refine (KA.out _).mono ?_; rintro e wa ⟨rfl, ba⟩; have u0 := (XA.out.drew.below ba).free 0 (by simp); have u1 := (XA.out.drew.below ba).free 1 (by simp); have u2 := (XA.out.drew.below ba).free 2 (by simp); have u3 := (XA.out.drew.below ba).free 3 (by simp); replace x0 := Kit.cell_below ba x0; replace x1 := Kit.cell_below ba x1; replace x2 := Kit.cell_below ba x2; replace x3 := Kit.cell_below ba x3; have XA2 := Lib.hid (XA.out.drew.below ba); have XB2 := Lib.hid (XB.out.drew.below ba); have HH2 := Lib.hid (HH.out.drew.trans (ba.mono HH.out.drew.size)); clear ba)
     all_goals
      have XX := Lib.hid ((((XB2.out.far (w.heap.size) 0 (.int .i64 a.id) (by omega)).far (w.heap.size) 1 (.int .i64 a.md) (by omega)).far (w.heap.size) 2 (.int .i64 a.ct) (by omega)).far (w.heap.size) 3 (.int .i64 a.ps) (by omega))
      have XY := Lib.hid (((((XA2.out.set 0 (.int .i64 a.id) (by simp)).set 1 (.int .i64 a.md) (by simp)).set 2 (.int .i64 a.ct) (by simp)).set 3 (.int .i64 a.ps) (by simp)).cast (show _ = [.int .i64 a.id, .int .i64 a.md, .int .i64 a.ct, .int .i64 a.ps] from rfl))
      have HZ := Lib.hid ((((HH2.out.setCell (p := ⟨w.heap.size, 0, none⟩) (Nat.le_refl _) (.int .i64 a.id)).setCell (p := ⟨w.heap.size, 1, none⟩) (Nat.le_refl _) (.int .i64 a.md)).setCell (p := ⟨w.heap.size, 2, none⟩) (Nat.le_refl _) (.int .i64 a.ct)).setCell (p := ⟨w.heap.size, 3, none⟩) (Nat.le_refl _) (.int .i64 a.ps))
      generalize ((((wa.setCell ⟨w.heap.size, 0, none⟩ (.int .i64 a.id)).setCell ⟨w.heap.size, 1, none⟩ (.int .i64 a.md)).setCell ⟨w.heap.size, 2, none⟩ (.int .i64 a.ct)).setCell ⟨w.heap.size, 3, none⟩ (.int .i64 a.ps)) = wy at *
      clear x0 u0 h0 x1 u1 h1 x2 u2 h2 x3 u3 h3
      have hlt := (XX.out).lt
      have hlt0 := (XY.out).lt
      have x0 := (XY.out).at_ 0 (.int .i64 a.id) rfl
      have x1 := (XY.out).at_ 1 (.int .i64 a.md) rfl
      have x2 := (XY.out).at_ 2 (.int .i64 a.ct) rfl
      have x3 := (XY.out).at_ 3 (.int .i64 a.ps) rfl
      have y0 := (XX.out).at_ 0 (.int .i64 0) rfl
      have z0 := (XX.out).free 0 (by simp)
      have u0 := (XY.out).free 0 (by simp)
      have y1 := (XX.out).at_ 1 (.int .i64 0) rfl
      have z1 := (XX.out).free 1 (by simp)
      have u1 := (XY.out).free 1 (by simp)
      have y2 := (XX.out).at_ 2 (.int .i64 0) rfl
      have z2 := (XX.out).free 2 (by simp)
      have u2 := (XY.out).free 2 (by simp)
      have y3 := (XX.out).at_ 3 (.int .i64 0) rfl
      have z3 := (XX.out).free 3 (by simp)
      have u3 := (XY.out).free 3 (by simp)
      go_wp2_with fail
      have r5 := ((((XX.out).set 0 (.int .i64 a.id) (by simp)).set 1 (.int .i64 a.md) (by simp)).set 2 (.int .i64 a.ct) (by simp)).set 3 (.int .i64 a.ps) (by simp)
      have p0 := r5.at_ 0 (.int .i64 a.id) rfl
      have p1 := r5.at_ 1 (.int .i64 a.md) rfl
      have p2 := r5.at_ 2 (.int .i64 a.ct) rfl
      have p3 := r5.at_ 3 (.int .i64 a.ps) rfl
      clear r5
      refine bodyPost_ret (v := .agg #[.int .i64 a.id, .int .i64 a.md, .int .i64 a.ct, .int .i64 a.ps]) (by simp [results, Tryz.results72, go_sem, p0, p1, p2, p3, hlt]) rfl ⟨rfl, ?_⟩
      repeat' (first | (with_reducible exact HZ.out) | (with_reducible refine Below.setCell ?_ ?_ _) | (with_reducible refine Below.alloc ?_ ?_ _) | (with_reducible refine Below.drew ?_))
      all_goals (first | omega | (simp; done) | (simp; omega))
   ·go_simp
    have HR := Lib.hid (Kit.Row.new wn #[.int .i64 0, .int .i64 0, .int .i64 0, .int .i64 0] 46)
    have hNx := XB.out.lt
    have hNB := RR.out.lt
    replace c0 := Kit.cell_below (Kit.alloc1 wn #[.int .i64 0, .int .i64 0, .int .i64 0, .int .i64 0] 46) c0
    replace RR := Lib.hid (RR.out.alloc (.cells #[.int .i64 0, .int .i64 0, .int .i64 0, .int .i64 0] 46))
    replace XA := Lib.hid (XA.out.alloc (.cells #[.int .i64 0, .int .i64 0, .int .i64 0, .int .i64 0] 46))
    replace XB := Lib.hid (XB.out.alloc (.cells #[.int .i64 0, .int .i64 0, .int .i64 0, .int .i64 0] 46))
    replace HH := Lib.hid (HH.out.alloc HH.out.size (.cells #[.int .i64 0, .int .i64 0, .int .i64 0, .int .i64 0] 46))
    generalize wn.heap.size = N at HR hNx hNB ⊢
    generalize wn.alloc (.cells #[.int .i64 0, .int .i64 0, .int .i64 0, .int .i64 0] 46) = wv at *
    refine hK.out _ _ ?_ (fun hHeld => ?_)
    ·first | go_keep | ((try dsimp only); (repeat' apply And.intro) <;> first | assumption | go_simp)
    clear hK K
    try simp only [Act.put, Rgn.a, Rgn.b, Rgn.c]
    refine Rgn.one 10 rfl (by kernel_rfl) (fun K hK => ?_)
    go_simp
    refine (KS1.out _ RR.out HH.out).mono ?_
    rintro e wn ⟨rfl, bn⟩
    replace c0 := Kit.cell_below bn c0
    replace RR := Lib.hid (RR.out.below bn)
    replace XA := Lib.hid (XA.out.below bn)
    replace XB := Lib.hid (XB.out.below bn)
    replace HR := Lib.hid (HR.out.below bn)
    replace HH := Lib.hid (HH.out.trans (bn.mono HH.out.size))
    clear bn
    try go_simp
    refine hK.out _ _ ?_ (fun hHeld => ?_)
    ·first | go_keep | ((try dsimp only); (repeat' apply And.intro) <;> first | assumption | go_simp)
    clear hK K
    try simp only [Act.put, Rgn.a, Rgn.b, Rgn.c]
    refine Rgn.one 11 rfl (by kernel_rfl) (fun K hK => ?_)
    go_simp
    refine (KH.out _).mono ?_
    rintro e wn ⟨rfl, bn⟩
    replace c0 := Kit.cell_below bn c0
    replace RR := Lib.hid (RR.out.below bn)
    replace XA := Lib.hid (XA.out.below bn)
    replace XB := Lib.hid (XB.out.below bn)
    replace HR := Lib.hid (HR.out.below bn)
    replace HH := Lib.hid (HH.out.trans (bn.mono HH.out.size))
    clear bn
    try go_simp
    have g0 := HR.out.at_ 0 (.int .i64 0) rfl
    have z0 := HR.out.free 0 (by simp)
    have g1 := HR.out.at_ 1 (.int .i64 0) rfl
    have z1 := HR.out.free 1 (by simp)
    have g2 := HR.out.at_ 2 (.int .i64 0) rfl
    have z2 := HR.out.free 2 (by simp)
    have g3 := HR.out.at_ 3 (.int .i64 0) rfl
    have z3 := HR.out.free 3 (by simp)
    refine hK.out _ _ ?_ (fun hHeld => ?_)
    ·first | go_keep | ((try dsimp only); (repeat' apply And.intro) <;> first | assumption | go_simp)
    clear hK K
    try simp only [Act.put, Rgn.a, Rgn.b, Rgn.c]
    refine Rgn.tk 12 rfl ?_
    try simp only [Act.put, Rgn.a, Rgn.b, Rgn.c]
    refine Rgn.tk 13 rfl ?_
    try simp only [Act.put, Rgn.a, Rgn.b, Rgn.c]
    refine Rgn.tk 14 rfl ?_
    try simp only [Act.put, Rgn.a, Rgn.b, Rgn.c]
    refine Rgn.one 16 rfl (by kernel_rfl) (fun K hK => ?_)
    go_simp
    have hz := RR.out
    replace RR := Lib.hid ((((RR.out.far (N) 0 (.int .i64 p.k) (by omega)).far (N) 1 (.int .i64 p.i) (by omega)).far (N) 2 (.int .i64 q.k) (by omega)).far (N) 3 (.int .i64 q.i) (by omega))
    replace XA := Lib.hid ((((XA.out.far (N) 0 (.int .i64 p.k) (by omega)).far (N) 1 (.int .i64 p.i) (by omega)).far (N) 2 (.int .i64 q.k) (by omega)).far (N) 3 (.int .i64 q.i) (by omega))
    replace XB := Lib.hid ((((XB.out.far (N) 0 (.int .i64 p.k) (by omega)).far (N) 1 (.int .i64 p.i) (by omega)).far (N) 2 (.int .i64 q.k) (by omega)).far (N) 3 (.int .i64 q.i) (by omega))
    have HQ := Lib.hid (((((HR.out.set 0 (.int .i64 p.k) (by simp)).set 1 (.int .i64 p.i) (by simp)).set 2 (.int .i64 q.k) (by simp)).set 3 (.int .i64 q.i) (by simp)).cast (show _ = [.int .i64 p.k, .int .i64 p.i, .int .i64 q.k, .int .i64 q.i] from rfl))
    have hNw : w.heap.size ≤ N := by omega
    replace HH := Lib.hid ((((HH.out.setCell (p := ⟨N, 0, none⟩) (hNw) (.int .i64 p.k)).setCell (p := ⟨N, 1, none⟩) (hNw) (.int .i64 p.i)).setCell (p := ⟨N, 2, none⟩) (hNw) (.int .i64 q.k)).setCell (p := ⟨N, 3, none⟩) (hNw) (.int .i64 q.i))
    generalize ((((wn.setCell ⟨N, 0, none⟩ (.int .i64 p.k)).setCell ⟨N, 1, none⟩ (.int .i64 p.i)).setCell ⟨N, 2, none⟩ (.int .i64 q.k)).setCell ⟨N, 3, none⟩ (.int .i64 q.i)) = wz at *
    replace c0 := RR.out.at_ 0 (.int .i64 x.n) rfl
    clear hz g0 z0 g1 z1 g2 z2 g3 z3
    refine hK.out _ _ ?_ (fun hHeld => ?_)
    ·first | go_keep | ((try dsimp only); (repeat' apply And.intro) <;> first | assumption | go_simp)
    clear hK K
    try simp only [Act.put, Rgn.a, Rgn.b, Rgn.c]
    refine Rgn.tk 17 rfl ?_
    try simp only [Act.put, Rgn.a, Rgn.b, Rgn.c]
    refine wpAnyH_done (by kernel_rfl) ?_ _
    go_wp2_with fail
    have x0 := XA.out.at_ 0 (.int .i64 y.id) rfl
    have x1 := XA.out.at_ 1 (.int .i64 y.md) rfl
    have x2 := XA.out.at_ 2 (.int .i64 y.ct) rfl
    have x3 := XA.out.at_ 3 (.int .i64 y.ps) rfl
    have h0 := HQ.out.at_ 0 (.int .i64 p.k) rfl
    have h1 := HQ.out.at_ 1 (.int .i64 p.i) rfl
    have h2 := HQ.out.at_ 2 (.int .i64 q.k) rfl
    have h3 := HQ.out.at_ 3 (.int .i64 q.i) rfl
    go_region_with (go_at_call 104; refine (KA.out _).mono ?_; rintro e wa ⟨rfl, ba⟩; have u0 := (XA.out.drew.below ba).free 0 (by simp); have u1 := (XA.out.drew.below ba).free 1 (by simp); have u2 := (XA.out.drew.below ba).free 2 (by simp); have u3 := (XA.out.drew.below ba).free 3 (by simp); replace x0 := Kit.cell_below ba x0; replace x1 := Kit.cell_below ba x1; replace x2 := Kit.cell_below ba x2; replace x3 := Kit.cell_below ba x3; have XA2 := Lib.hid (XA.out.drew.below ba); have XB2 := Lib.hid (XB.out.drew.below ba); have HH2 := Lib.hid (HH.out.drew.trans (ba.mono HH.out.drew.size)); clear ba)
    all_goals
     have XX := Lib.hid ((((XB2.out.far (w.heap.size) 0 (.int .i64 a.id) (by omega)).far (w.heap.size) 1 (.int .i64 a.md) (by omega)).far (w.heap.size) 2 (.int .i64 a.ct) (by omega)).far (w.heap.size) 3 (.int .i64 a.ps) (by omega))
     have XY := Lib.hid (((((XA2.out.set 0 (.int .i64 a.id) (by simp)).set 1 (.int .i64 a.md) (by simp)).set 2 (.int .i64 a.ct) (by simp)).set 3 (.int .i64 a.ps) (by simp)).cast (show _ = [.int .i64 a.id, .int .i64 a.md, .int .i64 a.ct, .int .i64 a.ps] from rfl))
     have HZ := Lib.hid ((((HH2.out.setCell (p := ⟨w.heap.size, 0, none⟩) (Nat.le_refl _) (.int .i64 a.id)).setCell (p := ⟨w.heap.size, 1, none⟩) (Nat.le_refl _) (.int .i64 a.md)).setCell (p := ⟨w.heap.size, 2, none⟩) (Nat.le_refl _) (.int .i64 a.ct)).setCell (p := ⟨w.heap.size, 3, none⟩) (Nat.le_refl _) (.int .i64 a.ps))
     generalize ((((wa.setCell ⟨w.heap.size, 0, none⟩ (.int .i64 a.id)).setCell ⟨w.heap.size, 1, none⟩ (.int .i64 a.md)).setCell ⟨w.heap.size, 2, none⟩ (.int .i64 a.ct)).setCell ⟨w.heap.size, 3, none⟩ (.int .i64 a.ps)) = wy at *
     clear x0 u0 h0 x1 u1 h1 x2 u2 h2 x3 u3 h3
     have hlt := (XX.out).lt
     have hlt0 := (XY.out).lt
     have x0 := (XY.out).at_ 0 (.int .i64 a.id) rfl
     have x1 := (XY.out).at_ 1 (.int .i64 a.md) rfl
     have x2 := (XY.out).at_ 2 (.int .i64 a.ct) rfl
     have x3 := (XY.out).at_ 3 (.int .i64 a.ps) rfl
     have y0 := (XX.out).at_ 0 (.int .i64 0) rfl
     have z0 := (XX.out).free 0 (by simp)
     have u0 := (XY.out).free 0 (by simp)
     have y1 := (XX.out).at_ 1 (.int .i64 0) rfl
     have z1 := (XX.out).free 1 (by simp)
     have u1 := (XY.out).free 1 (by simp)
     have y2 := (XX.out).at_ 2 (.int .i64 0) rfl
     have z2 := (XX.out).free 2 (by simp)
     have u2 := (XY.out).free 2 (by simp)
     have y3 := (XX.out).at_ 3 (.int .i64 0) rfl
     have z3 := (XX.out).free 3 (by simp)
     have u3 := (XY.out).free 3 (by simp)
     go_wp2_with fail
     have r5 := ((((XX.out).set 0 (.int .i64 a.id) (by simp)).set 1 (.int .i64 a.md) (by simp)).set 2 (.int .i64 a.ct) (by simp)).set 3 (.int .i64 a.ps) (by simp)
     have p0 := r5.at_ 0 (.int .i64 a.id) rfl
     have p1 := r5.at_ 1 (.int .i64 a.md) rfl
     have p2 := r5.at_ 2 (.int .i64 a.ct) rfl
     have p3 := r5.at_ 3 (.int .i64 a.ps) rfl
     clear r5
     refine bodyPost_ret (v := .agg #[.int .i64 a.id, .int .i64 a.md, .int .i64 a.ct, .int .i64 a.ps]) (by simp [results, Tryz.results72, go_sem, p0, p1, p2, p3, hlt]) rfl ⟨rfl, ?_⟩
     repeat' (first | (with_reducible exact HZ.out) | (with_reducible refine Below.setCell ?_ ?_ _) | (with_reducible refine Below.alloc ?_ ?_ _) | (with_reducible refine Below.drew ?_))
     all_goals (first | omega | (simp; done) | (simp; omega))
  ·go_simp
   have HR := Lib.hid (Kit.Row.new w2 #[.int .i64 0, .int .i64 0, .int .i64 0, .int .i64 0] 46).drew
   have hNx := X1'.out.lt
   have hNB := R0'.out.lt
   replace c0 : (w2.alloc (.cells #[.int .i64 0, .int .i64 0, .int .i64 0, .int .i64 0] 46)).drew.cell? ⟨B, 0, none⟩ = some (.int .i64 x.n) := ((R0'.out.alloc _).drew).at_ 0 _ rfl
   replace RR := Lib.hid (R0'.out.alloc (.cells #[.int .i64 0, .int .i64 0, .int .i64 0, .int .i64 0] 46)).drew
   replace XA := Lib.hid (X0'.out.alloc (.cells #[.int .i64 0, .int .i64 0, .int .i64 0, .int .i64 0] 46)).drew
   replace XB := Lib.hid (X1'.out.alloc (.cells #[.int .i64 0, .int .i64 0, .int .i64 0, .int .i64 0] 46)).drew
   replace HH := Lib.hid (HB'.out.alloc HB'.out.size (.cells #[.int .i64 0, .int .i64 0, .int .i64 0, .int .i64 0] 46)).drew
   generalize w2.heap.size = N at HR hNx hNB ⊢
   generalize (w2.alloc (.cells #[.int .i64 0, .int .i64 0, .int .i64 0, .int .i64 0] 46)).drew = wv at *
   refine hK.out _ _ ?_ (fun hHeld => ?_)
   ·first | go_keep | ((try dsimp only); (repeat' apply And.intro) <;> first | assumption | go_simp)
   clear hK K
   try simp only [Act.put, Rgn.a, Rgn.b, Rgn.c]
   refine Rgn.one 7 rfl (by kernel_rfl) (fun K hK => ?_)
   go_simp
   refine (KS0.out _ RR.out HH.out).mono ?_
   rintro e wn ⟨rfl, bn⟩
   replace c0 := Kit.cell_below bn c0
   replace RR := Lib.hid (RR.out.below bn)
   replace XA := Lib.hid (XA.out.below bn)
   replace XB := Lib.hid (XB.out.below bn)
   replace HR := Lib.hid (HR.out.below bn)
   replace HH := Lib.hid (HH.out.trans (bn.mono HH.out.size))
   clear bn
   try go_simp
   refine hK.out _ _ ?_ (fun hHeld => ?_)
   ·first | go_keep | ((try dsimp only); (repeat' apply And.intro) <;> first | assumption | go_simp)
   clear hK K
   try simp only [Act.put, Rgn.a, Rgn.b, Rgn.c]
   refine Rgn.one 10 rfl (by kernel_rfl) (fun K hK => ?_)
   go_simp
   refine (KS1.out _ RR.out HH.out).mono ?_
   rintro e wn ⟨rfl, bn⟩
   replace c0 := Kit.cell_below bn c0
   replace RR := Lib.hid (RR.out.below bn)
   replace XA := Lib.hid (XA.out.below bn)
   replace XB := Lib.hid (XB.out.below bn)
   replace HR := Lib.hid (HR.out.below bn)
   replace HH := Lib.hid (HH.out.trans (bn.mono HH.out.size))
   clear bn
   try go_simp
   refine hK.out _ _ ?_ (fun hHeld => ?_)
   ·first | go_keep | ((try dsimp only); (repeat' apply And.intro) <;> first | assumption | go_simp)
   clear hK K
   try simp only [Act.put, Rgn.a, Rgn.b, Rgn.c]
   refine Rgn.one 11 rfl (by kernel_rfl) (fun K hK => ?_)
   go_simp
   refine (KH.out _).mono ?_
   rintro e wn ⟨rfl, bn⟩
   replace c0 := Kit.cell_below bn c0
   replace RR := Lib.hid (RR.out.below bn)
   replace XA := Lib.hid (XA.out.below bn)
   replace XB := Lib.hid (XB.out.below bn)
   replace HR := Lib.hid (HR.out.below bn)
   replace HH := Lib.hid (HH.out.trans (bn.mono HH.out.size))
   clear bn
   try go_simp
   have g0 := HR.out.at_ 0 (.int .i64 0) rfl
   have z0 := HR.out.free 0 (by simp)
   have g1 := HR.out.at_ 1 (.int .i64 0) rfl
   have z1 := HR.out.free 1 (by simp)
   have g2 := HR.out.at_ 2 (.int .i64 0) rfl
   have z2 := HR.out.free 2 (by simp)
   have g3 := HR.out.at_ 3 (.int .i64 0) rfl
   have z3 := HR.out.free 3 (by simp)
   refine hK.out _ _ ?_ (fun hHeld => ?_)
   ·first | go_keep | ((try dsimp only); (repeat' apply And.intro) <;> first | assumption | go_simp)
   clear hK K
   try simp only [Act.put, Rgn.a, Rgn.b, Rgn.c]
   refine Rgn.tk 12 rfl ?_
   try simp only [Act.put, Rgn.a, Rgn.b, Rgn.c]
   refine Rgn.tk 13 rfl ?_
   try simp only [Act.put, Rgn.a, Rgn.b, Rgn.c]
   refine Rgn.tk 14 rfl ?_
   try simp only [Act.put, Rgn.a, Rgn.b, Rgn.c]
   refine Rgn.one 16 rfl (by kernel_rfl) (fun K hK => ?_)
   go_simp
   have hz := RR.out
   replace RR := Lib.hid ((((RR.out.far (N) 0 (.int .i64 p.k) (by omega)).far (N) 1 (.int .i64 p.i) (by omega)).far (N) 2 (.int .i64 q.k) (by omega)).far (N) 3 (.int .i64 q.i) (by omega))
   replace XA := Lib.hid ((((XA.out.far (N) 0 (.int .i64 p.k) (by omega)).far (N) 1 (.int .i64 p.i) (by omega)).far (N) 2 (.int .i64 q.k) (by omega)).far (N) 3 (.int .i64 q.i) (by omega))
   replace XB := Lib.hid ((((XB.out.far (N) 0 (.int .i64 p.k) (by omega)).far (N) 1 (.int .i64 p.i) (by omega)).far (N) 2 (.int .i64 q.k) (by omega)).far (N) 3 (.int .i64 q.i) (by omega))
   have HQ := Lib.hid (((((HR.out.set 0 (.int .i64 p.k) (by simp)).set 1 (.int .i64 p.i) (by simp)).set 2 (.int .i64 q.k) (by simp)).set 3 (.int .i64 q.i) (by simp)).cast (show _ = [.int .i64 p.k, .int .i64 p.i, .int .i64 q.k, .int .i64 q.i] from rfl))
   have hNw : w.heap.size ≤ N := by omega
   replace HH := Lib.hid ((((HH.out.setCell (p := ⟨N, 0, none⟩) (hNw) (.int .i64 p.k)).setCell (p := ⟨N, 1, none⟩) (hNw) (.int .i64 p.i)).setCell (p := ⟨N, 2, none⟩) (hNw) (.int .i64 q.k)).setCell (p := ⟨N, 3, none⟩) (hNw) (.int .i64 q.i))
   generalize ((((wn.setCell ⟨N, 0, none⟩ (.int .i64 p.k)).setCell ⟨N, 1, none⟩ (.int .i64 p.i)).setCell ⟨N, 2, none⟩ (.int .i64 q.k)).setCell ⟨N, 3, none⟩ (.int .i64 q.i)) = wz at *
   replace c0 := RR.out.at_ 0 (.int .i64 x.n) rfl
   clear hz g0 z0 g1 z1 g2 z2 g3 z3
   refine hK.out _ _ ?_ (fun hHeld => ?_)
   ·first | go_keep | ((try dsimp only); (repeat' apply And.intro) <;> first | assumption | go_simp)
   clear hK K
   try simp only [Act.put, Rgn.a, Rgn.b, Rgn.c]
   refine Rgn.tk 17 rfl ?_
   try simp only [Act.put, Rgn.a, Rgn.b, Rgn.c]
   refine wpAnyH_done (by kernel_rfl) ?_ _
   go_wp2_with fail
   have x0 := XA.out.at_ 0 (.int .i64 y.id) rfl
   have x1 := XA.out.at_ 1 (.int .i64 y.md) rfl
   have x2 := XA.out.at_ 2 (.int .i64 y.ct) rfl
   have x3 := XA.out.at_ 3 (.int .i64 y.ps) rfl
   have h0 := HQ.out.at_ 0 (.int .i64 p.k) rfl
   have h1 := HQ.out.at_ 1 (.int .i64 p.i) rfl
   have h2 := HQ.out.at_ 2 (.int .i64 q.k) rfl
   have h3 := HQ.out.at_ 3 (.int .i64 q.i) rfl
   go_region_with (go_at_call 104; refine (KA.out _).mono ?_; rintro e wa ⟨rfl, ba⟩; have u0 := (XA.out.drew.below ba).free 0 (by simp); have u1 := (XA.out.drew.below ba).free 1 (by simp); have u2 := (XA.out.drew.below ba).free 2 (by simp); have u3 := (XA.out.drew.below ba).free 3 (by simp); replace x0 := Kit.cell_below ba x0; replace x1 := Kit.cell_below ba x1; replace x2 := Kit.cell_below ba x2; replace x3 := Kit.cell_below ba x3; have XA2 := Lib.hid (XA.out.drew.below ba); have XB2 := Lib.hid (XB.out.drew.below ba); have HH2 := Lib.hid (HH.out.drew.trans (ba.mono HH.out.drew.size)); clear ba)
   all_goals
    have XX := Lib.hid ((((XB2.out.far (w.heap.size) 0 (.int .i64 a.id) (by omega)).far (w.heap.size) 1 (.int .i64 a.md) (by omega)).far (w.heap.size) 2 (.int .i64 a.ct) (by omega)).far (w.heap.size) 3 (.int .i64 a.ps) (by omega))
    have XY := Lib.hid (((((XA2.out.set 0 (.int .i64 a.id) (by simp)).set 1 (.int .i64 a.md) (by simp)).set 2 (.int .i64 a.ct) (by simp)).set 3 (.int .i64 a.ps) (by simp)).cast (show _ = [.int .i64 a.id, .int .i64 a.md, .int .i64 a.ct, .int .i64 a.ps] from rfl))
    have HZ := Lib.hid ((((HH2.out.setCell (p := ⟨w.heap.size, 0, none⟩) (Nat.le_refl _) (.int .i64 a.id)).setCell (p := ⟨w.heap.size, 1, none⟩) (Nat.le_refl _) (.int .i64 a.md)).setCell (p := ⟨w.heap.size, 2, none⟩) (Nat.le_refl _) (.int .i64 a.ct)).setCell (p := ⟨w.heap.size, 3, none⟩) (Nat.le_refl _) (.int .i64 a.ps))
    generalize ((((wa.setCell ⟨w.heap.size, 0, none⟩ (.int .i64 a.id)).setCell ⟨w.heap.size, 1, none⟩ (.int .i64 a.md)).setCell ⟨w.heap.size, 2, none⟩ (.int .i64 a.ct)).setCell ⟨w.heap.size, 3, none⟩ (.int .i64 a.ps)) = wy at *
    clear x0 u0 h0 x1 u1 h1 x2 u2 h2 x3 u3 h3
    have hlt := (XX.out).lt
    have hlt0 := (XY.out).lt
    have x0 := (XY.out).at_ 0 (.int .i64 a.id) rfl
    have x1 := (XY.out).at_ 1 (.int .i64 a.md) rfl
    have x2 := (XY.out).at_ 2 (.int .i64 a.ct) rfl
    have x3 := (XY.out).at_ 3 (.int .i64 a.ps) rfl
    have y0 := (XX.out).at_ 0 (.int .i64 0) rfl
    have z0 := (XX.out).free 0 (by simp)
    have u0 := (XY.out).free 0 (by simp)
    have y1 := (XX.out).at_ 1 (.int .i64 0) rfl
    have z1 := (XX.out).free 1 (by simp)
    have u1 := (XY.out).free 1 (by simp)
    have y2 := (XX.out).at_ 2 (.int .i64 0) rfl
    have z2 := (XX.out).free 2 (by simp)
    have u2 := (XY.out).free 2 (by simp)
    have y3 := (XX.out).at_ 3 (.int .i64 0) rfl
    have z3 := (XX.out).free 3 (by simp)
    have u3 := (XY.out).free 3 (by simp)
    go_wp2_with fail
    have r5 := ((((XX.out).set 0 (.int .i64 a.id) (by simp)).set 1 (.int .i64 a.md) (by simp)).set 2 (.int .i64 a.ct) (by simp)).set 3 (.int .i64 a.ps) (by simp)
    have p0 := r5.at_ 0 (.int .i64 a.id) rfl
    have p1 := r5.at_ 1 (.int .i64 a.md) rfl
    have p2 := r5.at_ 2 (.int .i64 a.ct) rfl
    have p3 := r5.at_ 3 (.int .i64 a.ps) rfl
    clear r5
    refine bodyPost_ret (v := .agg #[.int .i64 a.id, .int .i64 a.md, .int .i64 a.ct, .int .i64 a.ps]) (by simp [results, Tryz.results72, go_sem, p0, p1, p2, p3, hlt]) rfl ⟨rfl, ?_⟩
    repeat' (first | (with_reducible exact HZ.out) | (with_reducible refine Below.setCell ?_ ?_ _) | (with_reducible refine Below.alloc ?_ ?_ _) | (with_reducible refine Below.drew ?_))
    all_goals (first | omega | (simp; done) | (simp; omega))
end Tk
end Go.Proofs.YtgiojagdmglinaaGreatDoor
