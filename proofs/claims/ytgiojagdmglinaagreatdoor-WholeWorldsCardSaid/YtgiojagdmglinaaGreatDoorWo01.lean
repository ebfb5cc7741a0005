/-
  Part 1 of a merged text.
-/
import Derived.Test.YtgiojagdmglinaaGreatDoorWo00
import Derived.Great.Walk
set_option linter.unusedVariables false
set_option linter.unusedSimpArgs false
set_option maxRecDepth 100000
namespace Go.Proofs.YtgiojagdmglinaaGreatDoor
open Go Go.RowKit Vote
namespace Nw
theorem sizeNode : (Tryz.prog.info? 60).map (·.size) = some 4 := by kernel_rfl
theorem made_ints (n : Nat) : (madeCells #[Value.int .i64 0] n).toList = ints (List.replicate n 0) := by
 apply List.ext_getElem?; intro j
 unfold ints
 by_cases hj : j < n
 ·simp [madeCells, hj, Nat.mod_one]
 ·rw [List.getElem?_eq_none (by simp [madeCells]; omega), List.getElem?_eq_none (by simp; omega)]
theorem mk_ints (n : Nat) (h8 : n ≤ 8) (W : World) : (Instr.makeSlice 22 (.int .i64 (n : Int)) (.int .i64 (n : Int))).run Tryz.prog W = .ok (.slice (some ⟨W.heap.size, 0, none⟩) n n) (W.alloc (.cells (madeCells #[Value.int .i64 0] n) 3)) := by
 obtain ⟨i0, hi, hz0, hz1, hz2⟩ := info_parts Vw.infoInt
 have hr := run_make (P := Tryz.prog) W 22 3 i0 _ Tryz.underlying22 hi hz0 .i64 .i64 n n (by omega) (Int.le_refl _) (by rw [hz2]; omega) (by omega)
 simp only [Int.toNat_natCast, hz1, Nat.mul_one] at hr
 exact hr
set_option maxHeartbeats 2000000 in
theorem loaded_calls (base D G n : Nat) (c v : Int) (s : Sc) (w : World) (h3 : 3 ≤ n) (h8 : n ≤ 8) (hD : base ≤ D) (hG : base ≤ G) (hne : D ≠ G) (hDw : Kit.Row w D [.int .i64 n, .int .i64 0, .int .i64 c, .int .i64 v, .slice none 0 0, .slice (some ⟨G, 0, none⟩) n n, .int .i64 0, .int .i64 0, .int .i64 0, .int .i64 0, .int .i64 0, .int .i64 0, .int .i64 0, .int .i64 0, .int .i64 0, .int .i64 0, .int .i64 0, .int .i64 0, .int .i64 0, .int .i64 0, .int .i64 0, .int .i64 0, .int .i64 0, .int .i64 0, .int .i64 0, .int .i64 0, .int .i64 0, .int .i64 0, .int .i64 0, .int .i64 0]) (hGw : Kit.Row w G (Cl.cells (List.replicate n Nd.zero)))
  (hnl : s.nodes.length = s.nn) (hno : ∀ W, Below base w W → Nodes W s.na s.nn s.nodes) :
  Calls Tryz.prog 32 #[.agg #[.int .i64 s.n, .slice s.pa s.pn s.pc, .int .i64 s.c, .int .i64 s.v, .bool s.ld, .slice s.na s.nn s.nc, .int .i64 (s.h0.ag 0), .int .i64 (s.h0.ag 1), .int .i64 (s.h0.ag 2), .int .i64 (s.h0.ag 3), .int .i64 (s.h0.ag 4), .int .i64 (s.h0.ag 5), .int .i64 (s.h0.ag 6), .int .i64 (s.h0.ag 7), .int .i64 s.h0.port, .int .i64 s.h0.age, .int .i64 s.h0.hold, .int .i64 s.h0.pos, .int .i64 (s.h1.ag 0), .int .i64 (s.h1.ag 1), .int .i64 (s.h1.ag 2), .int .i64 (s.h1.ag 3), .int .i64 (s.h1.ag 4), .int .i64 (s.h1.ag 5), .int .i64 (s.h1.ag 6), .int .i64 (s.h1.ag 7), .int .i64 s.h1.port, .int .i64 s.h1.age, .int .i64 s.h1.hold, .int .i64 s.h1.pos, .slice s.ta s.tn s.tc], .pointer (some ⟨D, 0, none⟩)] w
   fun e w' => e = .returned (.tuple #[]) ∧ ∃ p, Kit.Row w' D [.int .i64 n, .int .i64 0, .int .i64 c, .int .i64 v, .slice (some ⟨p, 0, none⟩) n n, .slice (some ⟨G, 0, none⟩) n n, .int .i64 ((Lc.hub n s.h0).ag 0), .int .i64 ((Lc.hub n s.h0).ag 1), .int .i64 ((Lc.hub n s.h0).ag 2), .int .i64 ((Lc.hub n s.h0).ag 3), .int .i64 ((Lc.hub n s.h0).ag 4), .int .i64 ((Lc.hub n s.h0).ag 5), .int .i64 ((Lc.hub n s.h0).ag 6), .int .i64 ((Lc.hub n s.h0).ag 7), .int .i64 ((Lc.hub n s.h0).port), .int .i64 ((Lc.hub n s.h0).age), .int .i64 ((Lc.hub n s.h0).hold), .int .i64 ((Lc.hub n s.h0).pos), .int .i64 ((Lc.hub n s.h1).ag 0), .int .i64 ((Lc.hub n s.h1).ag 1), .int .i64 ((Lc.hub n s.h1).ag 2), .int .i64 ((Lc.hub n s.h1).ag 3), .int .i64 ((Lc.hub n s.h1).ag 4), .int .i64 ((Lc.hub n s.h1).ag 5), .int .i64 ((Lc.hub n s.h1).ag 6), .int .i64 ((Lc.hub n s.h1).ag 7), .int .i64 ((Lc.hub n s.h1).port), .int .i64 ((Lc.hub n s.h1).age), .int .i64 ((Lc.hub n s.h1).hold), .int .i64 ((Lc.hub n s.h1).pos)] ∧ Kit.Row w' G (Cl.cells ((List.range n).map (fun i => Nc.made n i (ndAt (Cl.over n s.nodes) i)))) ∧ w.heap.size ≤ p ∧ Kit.Row w' p (ints (List.replicate n 0)) ∧ Below base w w' := by
 have kl := fun W => Lc.clean_calls n s.h0 s.h1 W h3 h8
 have kn := fun (i : Nat) (x : Nd) (hi : i < n) W => Nc.clean_calls n i x W h3 h8 hi
 have KL := Lib.hid kl
 have KN := Lib.hid kn
 have HD := Lib.hid hDw
 have HG := Lib.hid hGw
 have HN := Lib.hid hno
 have HNL := Lib.hid hnl
 have ltD := hDw.lt
 have ltG := hGw.lt
 clear kl kn hDw hGw hno hnl
 have hmk := fun W => mk_ints n h8 W
 go_enter Tryz.func32, Tryz.ntmps32
 go_upto_region 1 with fail
 have RK := Lib.hid (Kit.Row.newAt w #[.int .i64 s.n, .slice s.pa s.pn s.pc, .int .i64 s.c, .int .i64 s.v, .bool s.ld, .slice s.na s.nn s.nc, .int .i64 (s.h0.ag 0), .int .i64 (s.h0.ag 1), .int .i64 (s.h0.ag 2), .int .i64 (s.h0.ag 3), .int .i64 (s.h0.ag 4), .int .i64 (s.h0.ag 5), .int .i64 (s.h0.ag 6), .int .i64 (s.h0.ag 7), .int .i64 s.h0.port, .int .i64 s.h0.age, .int .i64 s.h0.hold, .int .i64 s.h0.pos, .int .i64 (s.h1.ag 0), .int .i64 (s.h1.ag 1), .int .i64 (s.h1.ag 2), .int .i64 (s.h1.ag 3), .int .i64 (s.h1.ag 4), .int .i64 (s.h1.ag 5), .int .i64 (s.h1.ag 6), .int .i64 (s.h1.ag 7), .int .i64 s.h1.port, .int .i64 s.h1.age, .int .i64 s.h1.hold, .int .i64 s.h1.pos, .slice s.ta s.tn s.tc] 32 w.heap.size rfl)
 have RW := Lib.hid (HD.out.alloc (.cells #[.int .i64 s.n, .slice s.pa s.pn s.pc, .int .i64 s.c, .int .i64 s.v, .bool s.ld, .slice s.na s.nn s.nc, .int .i64 (s.h0.ag 0), .int .i64 (s.h0.ag 1), .int .i64 (s.h0.ag 2), .int .i64 (s.h0.ag 3), .int .i64 (s.h0.ag 4), .int .i64 (s.h0.ag 5), .int .i64 (s.h0.ag 6), .int .i64 (s.h0.ag 7), .int .i64 s.h0.port, .int .i64 s.h0.age, .int .i64 s.h0.hold, .int .i64 s.h0.pos, .int .i64 (s.h1.ag 0), .int .i64 (s.h1.ag 1), .int .i64 (s.h1.ag 2), .int .i64 (s.h1.ag 3), .int .i64 (s.h1.ag 4), .int .i64 (s.h1.ag 5), .int .i64 (s.h1.ag 6), .int .i64 (s.h1.ag 7), .int .i64 s.h1.port, .int .i64 s.h1.age, .int .i64 s.h1.hold, .int .i64 s.h1.pos, .slice s.ta s.tn s.tc] 32))
 have RG := Lib.hid (HG.out.alloc (.cells #[.int .i64 s.n, .slice s.pa s.pn s.pc, .int .i64 s.c, .int .i64 s.v, .bool s.ld, .slice s.na s.nn s.nc, .int .i64 (s.h0.ag 0), .int .i64 (s.h0.ag 1), .int .i64 (s.h0.ag 2), .int .i64 (s.h0.ag 3), .int .i64 (s.h0.ag 4), .int .i64 (s.h0.ag 5), .int .i64 (s.h0.ag 6), .int .i64 (s.h0.ag 7), .int .i64 s.h0.port, .int .i64 s.h0.age, .int .i64 s.h0.hold, .int .i64 s.h0.pos, .int .i64 (s.h1.ag 0), .int .i64 (s.h1.ag 1), .int .i64 (s.h1.ag 2), .int .i64 (s.h1.ag 3), .int .i64 (s.h1.ag 4), .int .i64 (s.h1.ag 5), .int .i64 (s.h1.ag 6), .int .i64 (s.h1.ag 7), .int .i64 s.h1.port, .int .i64 s.h1.age, .int .i64 s.h1.hold, .int .i64 s.h1.pos, .slice s.ta s.tn s.tc] 32))
 have HB := Lib.hid ((Below.refl base w).alloc (by omega) (.cells #[.int .i64 s.n, .slice s.pa s.pn s.pc, .int .i64 s.c, .int .i64 s.v, .bool s.ld, .slice s.na s.nn s.nc, .int .i64 (s.h0.ag 0), .int .i64 (s.h0.ag 1), .int .i64 (s.h0.ag 2), .int .i64 (s.h0.ag 3), .int .i64 (s.h0.ag 4), .int .i64 (s.h0.ag 5), .int .i64 (s.h0.ag 6), .int .i64 (s.h0.ag 7), .int .i64 s.h0.port, .int .i64 s.h0.age, .int .i64 s.h0.hold, .int .i64 s.h0.pos, .int .i64 (s.h1.ag 0), .int .i64 (s.h1.ag 1), .int .i64 (s.h1.ag 2), .int .i64 (s.h1.ag 3), .int .i64 (s.h1.ag 4), .int .i64 (s.h1.ag 5), .int .i64 (s.h1.ag 6), .int .i64 (s.h1.ag 7), .int .i64 s.h1.port, .int .i64 s.h1.age, .int .i64 s.h1.hold, .int .i64 s.h1.pos, .slice s.ta s.tn s.tc] 32))
 have lt2 : w.heap.size < (w.alloc (.cells #[.int .i64 s.n, .slice s.pa s.pn s.pc, .int .i64 s.c, .int .i64 s.v, .bool s.ld, .slice s.na s.nn s.nc, .int .i64 (s.h0.ag 0), .int .i64 (s.h0.ag 1), .int .i64 (s.h0.ag 2), .int .i64 (s.h0.ag 3), .int .i64 (s.h0.ag 4), .int .i64 (s.h0.ag 5), .int .i64 (s.h0.ag 6), .int .i64 (s.h0.ag 7), .int .i64 s.h0.port, .int .i64 s.h0.age, .int .i64 s.h0.hold, .int .i64 s.h0.pos, .int .i64 (s.h1.ag 0), .int .i64 (s.h1.ag 1), .int .i64 (s.h1.ag 2), .int .i64 (s.h1.ag 3), .int .i64 (s.h1.ag 4), .int .i64 (s.h1.ag 5), .int .i64 (s.h1.ag 6), .int .i64 (s.h1.ag 7), .int .i64 s.h1.port, .int .i64 s.h1.age, .int .i64 s.h1.hold, .int .i64 s.h1.pos, .slice s.ta s.tn s.tc] 32)).heap.size := by simp
 clear HD HG
 generalize w.alloc (.cells #[.int .i64 s.n, .slice s.pa s.pn s.pc, .int .i64 s.c, .int .i64 s.v, .bool s.ld, .slice s.na s.nn s.nc, .int .i64 (s.h0.ag 0), .int .i64 (s.h0.ag 1), .int .i64 (s.h0.ag 2), .int .i64 (s.h0.ag 3), .int .i64 (s.h0.ag 4), .int .i64 (s.h0.ag 5), .int .i64 (s.h0.ag 6), .int .i64 (s.h0.ag 7), .int .i64 s.h0.port, .int .i64 s.h0.age, .int .i64 s.h0.hold, .int .i64 s.h0.pos, .int .i64 (s.h1.ag 0), .int .i64 (s.h1.ag 1), .int .i64 (s.h1.ag 2), .int .i64 (s.h1.ag 3), .int .i64 (s.h1.ag 4), .int .i64 (s.h1.ag 5), .int .i64 (s.h1.ag 6), .int .i64 (s.h1.ag 7), .int .i64 s.h1.port, .int .i64 s.h1.age, .int .i64 s.h1.hold, .int .i64 s.h1.pos, .slice s.ta s.tn s.tc] 32) = w2 at *
 have c0 := RW.out.at_ 0 (.int .i64 n) rfl
 iterate 24 (first | go_guarded | go_step | go_upon | go_back)
 have hp0 : w.heap.size ≤ w2.heap.size := by omega
 have RP := Lib.hid ((Kit.Row.newAt w2 (madeCells #[Value.int .i64 0] n) 3 w2.heap.size rfl).cast (made_ints n))
 replace RW := Lib.hid (RW.out.alloc (.cells (madeCells #[Value.int .i64 0] n) 3))
 replace RK := Lib.hid (RK.out.alloc (.cells (madeCells #[Value.int .i64 0] n) 3))
 replace RG := Lib.hid (RG.out.alloc (.cells (madeCells #[Value.int .i64 0] n) 3))
 replace HB := Lib.hid (HB.out.alloc (by omega) (.cells (madeCells #[Value.int .i64 0] n) 3))
 clear c0 hmk
 generalize w2.alloc (.cells (madeCells #[Value.int .i64 0] n) 3) = w4 at *
 have hDp : D ≠ w2.heap.size := by omega
 have hGp : G ≠ w2.heap.size := by omega
 have hkp : w.heap.size ≠ w2.heap.size := by omega
 clear lt2
 generalize w2.heap.size = p at *
 have d4 := RW.out.at_ 4 (.slice none 0 0) rfl
 have z4 := RW.out.free 4 (by simp)
 go_upto_region 2 with fail
 replace RW : Hid (Kit.Row _ D [.int .i64 n, .int .i64 0, .int .i64 c, .int .i64 v, .slice (some ⟨p, 0, none⟩) n n, .slice (some ⟨G, 0, none⟩) n n, .int .i64 0, .int .i64 0, .int .i64 0, .int .i64 0, .int .i64 0, .int .i64 0, .int .i64 0, .int .i64 0, .int .i64 0, .int .i64 0, .int .i64 0, .int .i64 0, .int .i64 0, .int .i64 0, .int .i64 0, .int .i64 0, .int .i64 0, .int .i64 0, .int .i64 0, .int .i64 0, .int .i64 0, .int .i64 0, .int .i64 0, .int .i64 0]) := Lib.hid ((RW.out.set 4 (.slice (some ⟨p, 0, none⟩) n n) (by simp)).cast rfl)
 replace RK := Lib.hid (RK.out.far D 4 (.slice (some ⟨p, 0, none⟩) n n) (by omega))
 replace RG := Lib.hid (RG.out.far D 4 (.slice (some ⟨p, 0, none⟩) n n) (by omega))
 replace RP := Lib.hid (RP.out.far D 4 (.slice (some ⟨p, 0, none⟩) n n) (by omega))
 replace HB := Lib.hid (HB.out.setCell (p := ⟨D, 4, none⟩) hD (.slice (some ⟨p, 0, none⟩) n n))
 clear d4 z4
 generalize w4.setCell ⟨D, 4, none⟩ (.slice (some ⟨p, 0, none⟩) n n) = w5 at *
 have c0 := RW.out.at_ 0 (.int .i64 n) rfl
 refine wp_region_held_drew (S := (fun w' => w'.cell? ⟨D, 0, none⟩ = some (.int .i64 n))) (by kernel_rfl) ?_ (fun hHeld => ?_)
 ·go_keep
 replace RW := Lib.hid RW.out.drew
 replace RK := Lib.hid RK.out.drew
 replace RG := Lib.hid RG.out.drew
 replace RP := Lib.hid RP.out.drew
 replace HB := Lib.hid HB.out.drew
 generalize w5.drew = w6 at *
 refine Rgn.tk 0 rfl ?_
 try simp only [Act.put, Rgn.a, Rgn.b, Rgn.c]
 refine Rgn.tk 1 rfl ?_
 try simp only [Act.put, Rgn.a, Rgn.b, Rgn.c]
 refine Rgn.tk 2 rfl ?_
 try simp only [Act.put, Rgn.a, Rgn.b, Rgn.c]
 refine Rgn.tk 3 rfl ?_
 try simp only [Act.put, Rgn.a, Rgn.b, Rgn.c]
 refine Rgn.tk 4 rfl ?_
 try simp only [Act.put, Rgn.a, Rgn.b, Rgn.c]
 refine Rgn.tk 5 rfl ?_
 try simp only [Act.put, Rgn.a, Rgn.b, Rgn.c]
 refine Rgn.one 6 rfl (by kernel_rfl) (fun K hK => ?_)
 rw [if_pos (by kernel_rfl)]
 refine Kit.wp_load_row 29 (.tmp 20) rfl w.heap.size 6 rfl RK.out [.int .i64 (s.h0.ag 0), .int .i64 (s.h0.ag 1), .int .i64 (s.h0.ag 2), .int .i64 (s.h0.ag 3), .int .i64 (s.h0.ag 4), .int .i64 (s.h0.ag 5), .int .i64 (s.h0.ag 6), .int .i64 (s.h0.ag 7), .int .i64 s.h0.port, .int .i64 s.h0.age, .int .i64 s.h0.hold, .int .i64 s.h0.pos, .int .i64 (s.h1.ag 0), .int .i64 (s.h1.ag 1), .int .i64 (s.h1.ag 2), .int .i64 (s.h1.ag 3), .int .i64 (s.h1.ag 4), .int .i64 (s.h1.ag 5), .int .i64 (s.h1.ag 6), .int .i64 (s.h1.ag 7), .int .i64 s.h1.port, .int .i64 s.h1.age, .int .i64 s.h1.hold, .int .i64 s.h1.pos] rfl _ Tryz.underlying29 rfl Link.sizeHubs ?_
 refine hK.out _ _ ?_ (fun hHeld => ?_)
 ·first | go_keep | ((try dsimp only); (repeat' apply And.intro) <;> first | assumption | go_simp)
 clear hK K
 try simp only [Act.put, Rgn.a, Rgn.b, Rgn.c]
 refine Rgn.one 7 rfl (by kernel_rfl) (fun K hK => ?_)
 go_simp
 refine (KL.out _).mono ?_
 rintro e w7 ⟨rfl, b7⟩
 clear c0
 replace RW := Lib.hid (RW.out.below b7)
 replace RK := Lib.hid (RK.out.below b7)
 replace RG := Lib.hid (RG.out.below b7)
 replace RP := Lib.hid (RP.out.below b7)
 replace HB := Lib.hid (HB.out.trans (b7.mono (by have := HB.out.size; omega)))
 clear b7
 have c0 := RW.out.at_ 0 (.int .i64 n) rfl
 go_simp
 refine hK.out _ _ ?_ (fun hHeld => ?_)
 ·first | go_keep | ((try dsimp only); (repeat' apply And.intro) <;> first | assumption | go_simp)
 clear hK K
 try simp only [Act.put, Rgn.a, Rgn.b, Rgn.c]
 refine Rgn.tk 8 rfl ?_
 try simp only [Act.put, Rgn.a, Rgn.b, Rgn.c]
 refine Rgn.tk 9 rfl ?_
 try simp only [Act.put, Rgn.a, Rgn.b, Rgn.c]
 refine Rgn.tk 10 rfl ?_
 try simp only [Act.put, Rgn.a, Rgn.b, Rgn.c]
 refine Rgn.tk 11 rfl ?_
 try simp only [Act.put, Rgn.a, Rgn.b, Rgn.c]
 refine Rgn.tk 12 rfl ?_
 try simp only [Act.put, Rgn.a, Rgn.b, Rgn.c]
 refine Rgn.one 13 rfl (by kernel_rfl) (fun K hK => ?_)
 rw [if_pos (by kernel_rfl)]
 refine Kit.wp_store_row 29 (.tmp 26) (.tmp 23) rfl D 6 #[.int .i64 ((Lc.hub n s.h0).ag 0), .int .i64 ((Lc.hub n s.h0).ag 1), .int .i64 ((Lc.hub n s.h0).ag 2), .int .i64 ((Lc.hub n s.h0).ag 3), .int .i64 ((Lc.hub n s.h0).ag 4), .int .i64 ((Lc.hub n s.h0).ag 5), .int .i64 ((Lc.hub n s.h0).ag 6), .int .i64 ((Lc.hub n s.h0).ag 7), .int .i64 ((Lc.hub n s.h0).port), .int .i64 ((Lc.hub n s.h0).age), .int .i64 ((Lc.hub n s.h0).hold), .int .i64 ((Lc.hub n s.h0).pos), .int .i64 ((Lc.hub n s.h1).ag 0), .int .i64 ((Lc.hub n s.h1).ag 1), .int .i64 ((Lc.hub n s.h1).ag 2), .int .i64 ((Lc.hub n s.h1).ag 3), .int .i64 ((Lc.hub n s.h1).ag 4), .int .i64 ((Lc.hub n s.h1).ag 5), .int .i64 ((Lc.hub n s.h1).ag 6), .int .i64 ((Lc.hub n s.h1).ag 7), .int .i64 ((Lc.hub n s.h1).port), .int .i64 ((Lc.hub n s.h1).age), .int .i64 ((Lc.hub n s.h1).hold), .int .i64 ((Lc.hub n s.h1).pos)] rfl rfl RW.out (by simp) Link.sizeHubs (by first | rfl | (simp [Value.oneCell']; done) | decide) ?_
 intro W hW
 clear c0
 replace RW : Hid (Kit.Row W D [.int .i64 n, .int .i64 0, .int .i64 c, .int .i64 v, .slice (some ⟨p, 0, none⟩) n n, .slice (some ⟨G, 0, none⟩) n n, .int .i64 ((Lc.hub n s.h0).ag 0), .int .i64 ((Lc.hub n s.h0).ag 1), .int .i64 ((Lc.hub n s.h0).ag 2), .int .i64 ((Lc.hub n s.h0).ag 3), .int .i64 ((Lc.hub n s.h0).ag 4), .int .i64 ((Lc.hub n s.h0).ag 5), .int .i64 ((Lc.hub n s.h0).ag 6), .int .i64 ((Lc.hub n s.h0).ag 7), .int .i64 ((Lc.hub n s.h0).port), .int .i64 ((Lc.hub n s.h0).age), .int .i64 ((Lc.hub n s.h0).hold), .int .i64 ((Lc.hub n s.h0).pos), .int .i64 ((Lc.hub n s.h1).ag 0), .int .i64 ((Lc.hub n s.h1).ag 1), .int .i64 ((Lc.hub n s.h1).ag 2), .int .i64 ((Lc.hub n s.h1).ag 3), .int .i64 ((Lc.hub n s.h1).ag 4), .int .i64 ((Lc.hub n s.h1).ag 5), .int .i64 ((Lc.hub n s.h1).ag 6), .int .i64 ((Lc.hub n s.h1).ag 7), .int .i64 ((Lc.hub n s.h1).port), .int .i64 ((Lc.hub n s.h1).age), .int .i64 ((Lc.hub n s.h1).hold), .int .i64 ((Lc.hub n s.h1).pos)]) := Lib.hid ((RW.out.on hW (by simp)).cast rfl)
 replace RG := Lib.hid (RG.out.off hW hne)
 replace RK := Lib.hid (RK.out.off hW (by omega))
 replace RP := Lib.hid (RP.out.off hW (by omega))
 replace HB := Lib.hid (Kit.below_of HB.out hW hD)
 clear hW
 have c0 := RW.out.at_ 0 (.int .i64 n) rfl
 refine hK.out _ _ ?_ (fun hHeld => ?_)
 ·first | go_keep | ((try dsimp only); (repeat' apply And.intro) <;> first | assumption | go_simp)
 clear hK K
 try simp only [Act.put, Rgn.a, Rgn.b, Rgn.c]
 refine wpAnyH_done (by kernel_rfl) ?_ _
 clear c0
 have c5 := RW.out.at_ 5 (.slice (some ⟨G, 0, none⟩) n n) rfl
 have k5 := RK.out.at_ 5 (.slice s.na s.nn s.nc) rfl
 go_upto_region 3 with fail
 refine wp_region_held_drew (S := (fun w' => w'.cell? ⟨D, 5, none⟩ = some (.slice (some ⟨G, 0, none⟩) n n) ∧ w'.cell? ⟨w.heap.size, 5, none⟩ = some (.slice s.na s.nn s.nc))) (by kernel_rfl) ?_ (fun hHeld => ?_)
 ·go_keep
 replace RW := Lib.hid RW.out.drew
 replace RK := Lib.hid RK.out.drew
 replace RG := Lib.hid RG.out.drew
 replace RP := Lib.hid RP.out.drew
 replace HB := Lib.hid HB.out.drew
 generalize W.drew = w8a at *
 refine Rgn.tk 0 rfl ?_
 try simp only [Act.put, Rgn.a, Rgn.b, Rgn.c]
 refine Rgn.tk 1 rfl ?_
 try simp only [Act.put, Rgn.a, Rgn.b, Rgn.c]
 refine Rgn.tk 2 rfl ?_
 try simp only [Act.put, Rgn.a, Rgn.b, Rgn.c]
 refine Rgn.tk 3 rfl ?_
 try simp only [Act.put, Rgn.a, Rgn.b, Rgn.c]
 refine Rgn.tk 4 rfl ?_
 try simp only [Act.put, Rgn.a, Rgn.b, Rgn.c]
 refine Rgn.tk 5 rfl ?_
 try simp only [Act.put, Rgn.a, Rgn.b, Rgn.c]
 refine Rgn.one 6 rfl (by kernel_rfl) (fun K hK => ?_)
 rw [if_pos (by kernel_rfl)]
 refine Kit.wp_copy_k (.tmp 30) (.tmp 32) 25 25 rfl 60 4 (by omega) Tryz.underlying25 sizeNode G n n s.na s.nn s.nc rfl rfl RG.out (Cl.cells (s.nodes.take n)) (by rw [Cl.cells_len, List.length_take, HNL.out, Nat.min_comm]) (by rw [Cl.cells_len, Cl.cells_len]; simp; omega) (Cl.take_src (HN.out _ HB.out)) (Cl.cells_one _) ?_
 intro W hW
 clear c5 k5
 replace RG : Hid (Kit.Row W G (Cl.cells (Cl.over n s.nodes))) := Lib.hid ((RG.out.on hW (by rw [Cl.cells_len, Cl.cells_len]; simp; omega)).cast (Cl.over_cells n s.nodes))
 replace RW := Lib.hid (RW.out.off hW (fun e => hne e.symm))
 replace RK := Lib.hid (RK.out.off hW (by omega))
 replace RP := Lib.hid (RP.out.off hW (by omega))
 replace HB := Lib.hid (Kit.below_of HB.out hW hG)
 clear hW
 have c5 := RW.out.at_ 5 (.slice (some ⟨G, 0, none⟩) n n) rfl
 have k5 := RK.out.at_ 5 (.slice s.na s.nn s.nc) rfl
 refine hK.out _ _ ?_ (fun hHeld => ?_)
 ·first | go_keep | ((try dsimp only); (repeat' apply And.intro) <;> first | assumption | go_simp)
 clear hK K
 try simp only [Act.put, Rgn.a, Rgn.b, Rgn.c]
 refine wpAnyH_done (by kernel_rfl) ?_ _
 clear c5 k5 RK
 have c5 := RW.out.at_ 5 (.slice (some ⟨G, 0, none⟩) n n) rfl
 go_wp2_with fail
 go_loopw [4, 5, 39] (fun _ _ vi wr => ∃ k : Nat, k ≤ n ∧ vi = .int .i64 k ∧ Hid (Kit.Row wr D [.int .i64 n, .int .i64 0, .int .i64 c, .int .i64 v, .slice (some ⟨p, 0, none⟩) n n, .slice (some ⟨G, 0, none⟩) n n, .int .i64 ((Lc.hub n s.h0).ag 0), .int .i64 ((Lc.hub n s.h0).ag 1), .int .i64 ((Lc.hub n s.h0).ag 2), .int .i64 ((Lc.hub n s.h0).ag 3), .int .i64 ((Lc.hub n s.h0).ag 4), .int .i64 ((Lc.hub n s.h0).ag 5), .int .i64 ((Lc.hub n s.h0).ag 6), .int .i64 ((Lc.hub n s.h0).ag 7), .int .i64 ((Lc.hub n s.h0).port), .int .i64 ((Lc.hub n s.h0).age), .int .i64 ((Lc.hub n s.h0).hold), .int .i64 ((Lc.hub n s.h0).pos), .int .i64 ((Lc.hub n s.h1).ag 0), .int .i64 ((Lc.hub n s.h1).ag 1), .int .i64 ((Lc.hub n s.h1).ag 2), .int .i64 ((Lc.hub n s.h1).ag 3), .int .i64 ((Lc.hub n s.h1).ag 4), .int .i64 ((Lc.hub n s.h1).ag 5), .int .i64 ((Lc.hub n s.h1).ag 6), .int .i64 ((Lc.hub n s.h1).ag 7), .int .i64 ((Lc.hub n s.h1).port), .int .i64 ((Lc.hub n s.h1).age), .int .i64 ((Lc.hub n s.h1).hold), .int .i64 ((Lc.hub n s.h1).pos)]) ∧ Hid (Kit.Row wr G (Cl.cells (mid n (fun i => Nc.made n i (ndAt (Cl.over n s.nodes) i)) (Cl.over n s.nodes) k))) ∧ Hid (Kit.Row wr p (ints (List.replicate n 0))) ∧ Hid (Below base w wr)) (fun _ _ vi _ => n - (intOf vi).toNat)
 case atStart => exact ⟨0, by omega, rfl, RW, Lib.hid (by rw [mid_zero n _ _ (Cl.over_len n s.nodes)]; exact RG.out), RP, HB⟩
 case round =>
  clear RW RG RP HB c5
  obtain ⟨k, hk, rfl, RW, RG, RP, HB⟩ := hrel
  by_cases hlt : k < n
  ·have gk : decide ((k : Int) < (n : Int)) = true := decide_eq_true (by omega)
   obtain ⟨d0, d1, d2, d3⟩ := Cl.cells_get _ k _ (mid_at n (fun i => Nc.made n i (ndAt (Cl.over n s.nodes) i)) (Cl.over n s.nodes) k hlt)
   obtain ⟨x, hx⟩ : ∃ x, ndAt (Cl.over n s.nodes) k = x := ⟨_, rfl⟩
   rw [hx] at d0 d1 d2 d3
   have HX : Hid (Nc.made n k x = (fun i => Nc.made n i (ndAt (Cl.over n s.nodes) i)) k) := Lib.hid (by rw [← hx])
   clear hx
   have lg := RG.out.lt
   have ld := RW.out.lt
   have lp := RP.out.lt
   have hs := HB.out.size
   have x0 := RG.out.at_ (k * 4) _ d0
   have x1 := RG.out.at_ (k * 4 + 1) _ d1
   have x2 := RG.out.at_ (k * 4 + 2) _ d2
   have x3 := RG.out.at_ (k * 4 + 3) _ d3
   go_upto_region 7 with fail
   clear x0 x1 x2 x3
   have RX := Lib.hid (Kit.Row.newAt wr #[.int .i64 x.id, .int .i64 x.md, .int .i64 x.ct, .int .i64 x.ps] 60 wr.heap.size rfl)
   replace RW := Lib.hid (RW.out.alloc (.cells #[.int .i64 x.id, .int .i64 x.md, .int .i64 x.ct, .int .i64 x.ps] 60))
   replace RG := Lib.hid (RG.out.alloc (.cells #[.int .i64 x.id, .int .i64 x.md, .int .i64 x.ct, .int .i64 x.ps] 60))
   replace RP := Lib.hid (RP.out.alloc (.cells #[.int .i64 x.id, .int .i64 x.md, .int .i64 x.ct, .int .i64 x.ps] 60))
   replace HB := Lib.hid (HB.out.alloc (by omega) (.cells #[.int .i64 x.id, .int .i64 x.md, .int .i64 x.ct, .int .i64 x.ps] 60))
   generalize wr.alloc (.cells #[.int .i64 x.id, .int .i64 x.md, .int .i64 x.ct, .int .i64 x.ps] 60) = w8 at *
   have hbX : base ≤ wr.heap.size := by omega
   generalize wr.heap.size = X at *
   have hGX : G < X := by omega
   clear lg ld lp hs
   have c0 := RW.out.at_ 0 (.int .i64 n) rfl
   have c5 := RW.out.at_ 5 (.slice (some ⟨G, 0, none⟩) n n) rfl
   have y0 := RX.out.at_ 0 (.int .i64 x.id) rfl
   have y1 := RX.out.at_ 1 (.int .i64 x.md) rfl
   have y2 := RX.out.at_ 2 (.int .i64 x.ct) rfl
   have y3 := RX.out.at_ 3 (.int .i64 x.ps) rfl
   refine wp_region_held_drew (S := (fun w' => w'.cell? ⟨D, 0, none⟩ = some (.int .i64 n) ∧ w'.cell? ⟨D, 5, none⟩ = some (.slice (some ⟨G, 0, none⟩) n n) ∧ w'.cell? ⟨X, 0, none⟩ = some (.int .i64 x.id) ∧ w'.cell? ⟨X, 1, none⟩ = some (.int .i64 x.md) ∧ w'.cell? ⟨X, 2, none⟩ = some (.int .i64 x.ct) ∧ w'.cell? ⟨X, 3, none⟩ = some (.int .i64 x.ps))) (by kernel_rfl) ?_ (fun hHeld => ?_)
   ·go_keep
   replace RW := Lib.hid RW.out.drew
   replace RG := Lib.hid RG.out.drew
   replace RP := Lib.hid RP.out.drew
   replace RX := Lib.hid RX.out.drew
   replace HB := Lib.hid HB.out.drew
   generalize w8.drew = w8d at *
   refine Rgn.tk 0 rfl ?_
   try simp only [Act.put, Rgn.a, Rgn.b, Rgn.c]
   refine Rgn.tk 1 rfl ?_
   try simp only [Act.put, Rgn.a, Rgn.b, Rgn.c]
   refine Rgn.tk 2 rfl ?_
   try simp only [Act.put, Rgn.a, Rgn.b, Rgn.c]
   refine Rgn.tk 3 rfl ?_
   try simp only [Act.put, Rgn.a, Rgn.b, Rgn.c]
   refine Rgn.tk 4 rfl ?_
   try simp only [Act.put, Rgn.a, Rgn.b, Rgn.c]
   refine Rgn.tk 5 rfl ?_
   try simp only [Act.put, Rgn.a, Rgn.b, Rgn.c]
   refine Rgn.tk 6 rfl ?_
   try simp only [Act.put, Rgn.a, Rgn.b, Rgn.c]
   refine Rgn.tk 7 rfl ?_
   try simp only [Act.put, Rgn.a, Rgn.b, Rgn.c]
   refine Rgn.tk 8 rfl ?_
   try simp only [Act.put, Rgn.a, Rgn.b, Rgn.c]
   refine Rgn.tk 9 rfl ?_
   try simp only [Act.put, Rgn.a, Rgn.b, Rgn.c]
   refine Rgn.tk 10 rfl ?_
   try simp only [Act.put, Rgn.a, Rgn.b, Rgn.c]
   refine Rgn.one 11 rfl (by kernel_rfl) (fun K hK => ?_)
   go_simp
   refine (KN.out k x hlt _).mono ?_
   rintro e w9 ⟨rfl, b9⟩
   clear c0 c5 y0 y1 y2 y3
   replace RW := Lib.hid (RW.out.below b9)
   replace RG := Lib.hid (RG.out.below b9)
   replace RP := Lib.hid (RP.out.below b9)
   replace RX := Lib.hid (RX.out.below b9)
   replace HB := Lib.hid (HB.out.trans (b9.mono (by have := HB.out.size; omega)))
   clear b9
   have c0 := RW.out.at_ 0 (.int .i64 n) rfl
   have c5 := RW.out.at_ 5 (.slice (some ⟨G, 0, none⟩) n n) rfl
   have y0 := RX.out.at_ 0 (.int .i64 x.id) rfl
   have y1 := RX.out.at_ 1 (.int .i64 x.md) rfl
   have y2 := RX.out.at_ 2 (.int .i64 x.ct) rfl
   have y3 := RX.out.at_ 3 (.int .i64 x.ps) rfl
   have x0 := RG.out.at_ (k * 4) _ d0
   have x1 := RG.out.at_ (k * 4 + 1) _ d1
   have x2 := RG.out.at_ (k * 4 + 2) _ d2
   have x3 := RG.out.at_ (k * 4 + 3) _ d3
   have z0 := RG.out.free (k * 4) (by rw [Cl.cells_len, mid_len]; omega)
   have z1 := RG.out.free (k * 4 + 1) (by rw [Cl.cells_len, mid_len]; omega)
   have z2 := RG.out.free (k * 4 + 2) (by rw [Cl.cells_len, mid_len]; omega)
   have z3 := RG.out.free (k * 4 + 3) (by rw [Cl.cells_len, mid_len]; omega)
   go_simp
   refine hK.out _ _ ?_ (fun hHeld => ?_)
   ·first | go_keep | ((try dsimp only); (repeat' apply And.intro) <;> first | assumption | go_simp)
   clear hK K
   try simp only [Act.put, Rgn.a, Rgn.b, Rgn.c]
   refine Rgn.tk 12 rfl ?_
   try simp only [Act.put, Rgn.a, Rgn.b, Rgn.c]
   refine Rgn.tk 13 rfl ?_
   try simp only [Act.put, Rgn.a, Rgn.b, Rgn.c]
   refine Rgn.tk 14 rfl ?_
   try simp only [Act.put, Rgn.a, Rgn.b, Rgn.c]
   refine Rgn.tk 15 rfl ?_
   try simp only [Act.put, Rgn.a, Rgn.b, Rgn.c]
   refine Rgn.one 16 rfl (by kernel_rfl) (fun K hK => ?_)
   go_simp
   have hl : k < (mid n (fun i => Nc.made n i (ndAt (Cl.over n s.nodes) i)) (Cl.over n s.nodes) k).length := by rw [mid_len]; exact hlt
   replace RG := Lib.hid (((((RG.out.set (k * 4) (.int .i64 (Nc.made n k x).id) (by simp only [List.length_set, Cl.cells_len, mid_len]; omega)).set (k * 4 + 1) (.int .i64 (Nc.made n k x).md) (by simp only [List.length_set, Cl.cells_len, mid_len]; omega)).set (k * 4 + 2) (.int .i64 (Nc.made n k x).ct) (by simp only [List.length_set, Cl.cells_len, mid_len]; omega)).set (k * 4 + 3) (.int .i64 (Nc.made n k x).ps) (by simp only [List.length_set, Cl.cells_len, mid_len]; omega)).cast (by rw [Cl.cells_set _ k (Nc.made n k x) hl, HX.out, ← mid_succ n (fun i => Nc.made n i (ndAt (Cl.over n s.nodes) i)) _ k hlt]))
   replace RW := Lib.hid ((((RW.out.far G (k * 4) (.int .i64 (Nc.made n k x).id) (by omega)).far G (k * 4 + 1) (.int .i64 (Nc.made n k x).md) (by omega)).far G (k * 4 + 2) (.int .i64 (Nc.made n k x).ct) (by omega)).far G (k * 4 + 3) (.int .i64 (Nc.made n k x).ps) (by omega))
   replace RP := Lib.hid ((((RP.out.far G (k * 4) (.int .i64 (Nc.made n k x).id) (by omega)).far G (k * 4 + 1) (.int .i64 (Nc.made n k x).md) (by omega)).far G (k * 4 + 2) (.int .i64 (Nc.made n k x).ct) (by omega)).far G (k * 4 + 3) (.int .i64 (Nc.made n k x).ps) (by omega))
   replace RX := Lib.hid ((((RX.out.far G (k * 4) (.int .i64 (Nc.made n k x).id) (by omega)).far G (k * 4 + 1) (.int .i64 (Nc.made n k x).md) (by omega)).far G (k * 4 + 2) (.int .i64 (Nc.made n k x).ct) (by omega)).far G (k * 4 + 3) (.int .i64 (Nc.made n k x).ps) (by omega))
   replace HB := Lib.hid ((((HB.out.setCell (p := ⟨G, k * 4, none⟩) hG (.int .i64 (Nc.made n k x).id)).setCell (p := ⟨G, k * 4 + 1, none⟩) hG (.int .i64 (Nc.made n k x).md)).setCell (p := ⟨G, k * 4 + 2, none⟩) hG (.int .i64 (Nc.made n k x).ct)).setCell (p := ⟨G, k * 4 + 3, none⟩) hG (.int .i64 (Nc.made n k x).ps))
   clear c0 c5 y0 y1 y2 y3 hl x0 z0 x1 z1 x2 z2 x3 z3
   have c0 := RW.out.at_ 0 (.int .i64 n) rfl
   have c5 := RW.out.at_ 5 (.slice (some ⟨G, 0, none⟩) n n) rfl
   have y0 := RX.out.at_ 0 (.int .i64 x.id) rfl
   have y1 := RX.out.at_ 1 (.int .i64 x.md) rfl
   have y2 := RX.out.at_ 2 (.int .i64 x.ct) rfl
   have y3 := RX.out.at_ 3 (.int .i64 x.ps) rfl
   refine hK.out _ _ ?_ (fun hHeld => ?_)
   ·first | go_keep | ((try dsimp only); (repeat' apply And.intro) <;> first | assumption | go_simp)
   clear hK K
   try simp only [Act.put, Rgn.a, Rgn.b, Rgn.c]
   refine wpAnyH_done (by kernel_rfl) ?_ _
   clear c0 c5 y0 y1 y2 y3
   go_wp2_with fail
   go_roundw
   case rel => exact ⟨_, _, _, ⟨k + 1, by omega, by go_num, RG⟩, rfl, rfl, rfl⟩
   case measure => simp [intOf]; omega
  ·obtain rfl : k = n := by omega
   have gk : decide ((k : Int) < (k : Int)) = false := by simp
   go_wp2_with fail
   exact Go.Great.bodyPost_end0 rfl rfl ⟨rfl, p, RW.out, by rw [← mid_all]; exact RG.out, hp0, RP.out, HB.out⟩
end Nw
end Go.Proofs.YtgiojagdmglinaaGreatDoor
