/-
  Part 2 of a merged text.
-/
import Derived.Test.YtgiojagdmglinaaGreatDoorWo01
set_option linter.unusedVariables false
set_option linter.unusedSimpArgs false
set_option maxRecDepth 100000
namespace Go.Proofs.YtgiojagdmglinaaGreatDoor
open Go Go.RowKit Vote
namespace Nw
set_option maxHeartbeats 1500000 in
theorem new1_calls (n : Nat) (s : Sc) (w : World) (h3 : 3 ≤ n) (h8 : n ≤ 8) (hn : s.n = n) (hld : s.ld = true) (hp : Nodes w s.na s.nn s.nodes) :
  Calls Tryz.prog 12 #[.agg #[.int .i64 n, .slice s.pa s.pn s.pc, .int .i64 s.c, .int .i64 s.v, .bool true, .slice s.na s.nn s.nc, .int .i64 (s.h0.ag 0), .int .i64 (s.h0.ag 1), .int .i64 (s.h0.ag 2), .int .i64 (s.h0.ag 3), .int .i64 (s.h0.ag 4), .int .i64 (s.h0.ag 5), .int .i64 (s.h0.ag 6), .int .i64 (s.h0.ag 7), .int .i64 s.h0.port, .int .i64 s.h0.age, .int .i64 s.h0.hold, .int .i64 s.h0.pos, .int .i64 (s.h1.ag 0), .int .i64 (s.h1.ag 1), .int .i64 (s.h1.ag 2), .int .i64 (s.h1.ag 3), .int .i64 (s.h1.ag 4), .int .i64 (s.h1.ag 5), .int .i64 (s.h1.ag 6), .int .i64 (s.h1.ag 7), .int .i64 s.h1.port, .int .i64 s.h1.age, .int .i64 s.h1.hold, .int .i64 s.h1.pos, .slice s.ta s.tn s.tc]] w
   fun e w' => ∃ p G, e = .returned (.tuple #[.agg (({ n := n, tick := 0, c := if Flt.may n s.c s.v then s.c else 0, v := if Flt.may n s.c s.v then s.v else 0, pa := some ⟨p, 0, none⟩, pc := n, power := List.replicate n 0, na := some ⟨G, 0, none⟩, nc := n, nodes := (List.range n).map (fun i => Nc.made n i (ndAt (Cl.over n s.nodes) i)), h0 := Lc.hub n s.h0, h1 := Lc.hub n s.h1 } : Wd)).cells.toArray, .int .i64 0]) ∧ (({ n := n, tick := 0, c := if Flt.may n s.c s.v then s.c else 0, v := if Flt.may n s.c s.v then s.v else 0, pa := some ⟨p, 0, none⟩, pc := n, power := List.replicate n 0, na := some ⟨G, 0, none⟩, nc := n, nodes := (List.range n).map (fun i => Nc.made n i (ndAt (Cl.over n s.nodes) i)), h0 := Lc.hub n s.h0, h1 := Lc.hub n s.h1 } : Wd)).There w' ∧ w.heap.size ≤ p ∧ w.heap.size ≤ G ∧ Below w.heap.size w w' := by
 have kr := fun W => Cf.right_calls (n : Int) W (by omega) (by omega)
 have kc := fun W => Flt.clean_calls (n : Int) s.c s.v W (by omega) (by omega)
 have kl := fun base D G c v W (hD : base ≤ D) (hG : base ≤ G) (hne : D ≠ G) hDw hGw (hW : ∀ W2, Below base W W2 → Nodes W2 s.na s.nn s.nodes) => loaded_calls base D G n c v s W h3 h8 hD hG hne hDw hGw hp.len hW
 rw [hn, hld] at kl
 generalize (if Flt.may n s.c s.v then s.c else 0) = fc at kc ⊢
 generalize (if Flt.may n s.c s.v then s.v else 0) = fv at kc ⊢
 have KR := Lib.hid kr
 have KC := Lib.hid kc
 have KL := Lib.hid kl
 have HP := Lib.hid hp
 clear kr kc kl hn hld hp
 have hmk := fun W => mk_nodes n h8 W
 go_enter Tryz.func12, Tryz.ntmps12
 go_upto_region 1 with fail
 have q0 : Kit.Row ((w.alloc (.cells #[.int .i64 n, .slice s.pa s.pn s.pc, .int .i64 s.c, .int .i64 s.v, .bool true, .slice s.na s.nn s.nc, .int .i64 (s.h0.ag 0), .int .i64 (s.h0.ag 1), .int .i64 (s.h0.ag 2), .int .i64 (s.h0.ag 3), .int .i64 (s.h0.ag 4), .int .i64 (s.h0.ag 5), .int .i64 (s.h0.ag 6), .int .i64 (s.h0.ag 7), .int .i64 s.h0.port, .int .i64 s.h0.age, .int .i64 s.h0.hold, .int .i64 s.h0.pos, .int .i64 (s.h1.ag 0), .int .i64 (s.h1.ag 1), .int .i64 (s.h1.ag 2), .int .i64 (s.h1.ag 3), .int .i64 (s.h1.ag 4), .int .i64 (s.h1.ag 5), .int .i64 (s.h1.ag 6), .int .i64 (s.h1.ag 7), .int .i64 s.h1.port, .int .i64 s.h1.age, .int .i64 s.h1.hold, .int .i64 s.h1.pos, .slice s.ta s.tn s.tc] 32)).alloc (.cells #[.int .i64 0, .int .i64 0, .int .i64 0, .int .i64 0, .slice none 0 0, .slice none 0 0, .int .i64 0, .int .i64 0, .int .i64 0, .int .i64 0, .int .i64 0, .int .i64 0, .int .i64 0, .int .i64 0, .int .i64 0, .int .i64 0, .int .i64 0, .int .i64 0, .int .i64 0, .int .i64 0, .int .i64 0, .int .i64 0, .int .i64 0, .int .i64 0, .int .i64 0, .int .i64 0, .int .i64 0, .int .i64 0, .int .i64 0, .int .i64 0] 36)) (w.heap.size) [.int .i64 n, .slice s.pa s.pn s.pc, .int .i64 s.c, .int .i64 s.v, .bool true, .slice s.na s.nn s.nc, .int .i64 (s.h0.ag 0), .int .i64 (s.h0.ag 1), .int .i64 (s.h0.ag 2), .int .i64 (s.h0.ag 3), .int .i64 (s.h0.ag 4), .int .i64 (s.h0.ag 5), .int .i64 (s.h0.ag 6), .int .i64 (s.h0.ag 7), .int .i64 s.h0.port, .int .i64 s.h0.age, .int .i64 s.h0.hold, .int .i64 s.h0.pos, .int .i64 (s.h1.ag 0), .int .i64 (s.h1.ag 1), .int .i64 (s.h1.ag 2), .int .i64 (s.h1.ag 3), .int .i64 (s.h1.ag 4), .int .i64 (s.h1.ag 5), .int .i64 (s.h1.ag 6), .int .i64 (s.h1.ag 7), .int .i64 s.h1.port, .int .i64 s.h1.age, .int .i64 s.h1.hold, .int .i64 s.h1.pos, .slice s.ta s.tn s.tc] := ((Kit.Row.new w _ _).alloc _)
 have q1 : Kit.Row ((w.alloc (.cells #[.int .i64 n, .slice s.pa s.pn s.pc, .int .i64 s.c, .int .i64 s.v, .bool true, .slice s.na s.nn s.nc, .int .i64 (s.h0.ag 0), .int .i64 (s.h0.ag 1), .int .i64 (s.h0.ag 2), .int .i64 (s.h0.ag 3), .int .i64 (s.h0.ag 4), .int .i64 (s.h0.ag 5), .int .i64 (s.h0.ag 6), .int .i64 (s.h0.ag 7), .int .i64 s.h0.port, .int .i64 s.h0.age, .int .i64 s.h0.hold, .int .i64 s.h0.pos, .int .i64 (s.h1.ag 0), .int .i64 (s.h1.ag 1), .int .i64 (s.h1.ag 2), .int .i64 (s.h1.ag 3), .int .i64 (s.h1.ag 4), .int .i64 (s.h1.ag 5), .int .i64 (s.h1.ag 6), .int .i64 (s.h1.ag 7), .int .i64 s.h1.port, .int .i64 s.h1.age, .int .i64 s.h1.hold, .int .i64 s.h1.pos, .slice s.ta s.tn s.tc] 32)).alloc (.cells #[.int .i64 0, .int .i64 0, .int .i64 0, .int .i64 0, .slice none 0 0, .slice none 0 0, .int .i64 0, .int .i64 0, .int .i64 0, .int .i64 0, .int .i64 0, .int .i64 0, .int .i64 0, .int .i64 0, .int .i64 0, .int .i64 0, .int .i64 0, .int .i64 0, .int .i64 0, .int .i64 0, .int .i64 0, .int .i64 0, .int .i64 0, .int .i64 0, .int .i64 0, .int .i64 0, .int .i64 0, .int .i64 0, .int .i64 0, .int .i64 0] 36)) (w.heap.size + 1) [.int .i64 0, .int .i64 0, .int .i64 0, .int .i64 0, .slice none 0 0, .slice none 0 0, .int .i64 0, .int .i64 0, .int .i64 0, .int .i64 0, .int .i64 0, .int .i64 0, .int .i64 0, .int .i64 0, .int .i64 0, .int .i64 0, .int .i64 0, .int .i64 0, .int .i64 0, .int .i64 0, .int .i64 0, .int .i64 0, .int .i64 0, .int .i64 0, .int .i64 0, .int .i64 0, .int .i64 0, .int .i64 0, .int .i64 0, .int .i64 0] := (Kit.Row.newAt _ _ _ _ (by simp))
 have qb : Below w.heap.size w ((w.alloc (.cells #[.int .i64 n, .slice s.pa s.pn s.pc, .int .i64 s.c, .int .i64 s.v, .bool true, .slice s.na s.nn s.nc, .int .i64 (s.h0.ag 0), .int .i64 (s.h0.ag 1), .int .i64 (s.h0.ag 2), .int .i64 (s.h0.ag 3), .int .i64 (s.h0.ag 4), .int .i64 (s.h0.ag 5), .int .i64 (s.h0.ag 6), .int .i64 (s.h0.ag 7), .int .i64 s.h0.port, .int .i64 s.h0.age, .int .i64 s.h0.hold, .int .i64 s.h0.pos, .int .i64 (s.h1.ag 0), .int .i64 (s.h1.ag 1), .int .i64 (s.h1.ag 2), .int .i64 (s.h1.ag 3), .int .i64 (s.h1.ag 4), .int .i64 (s.h1.ag 5), .int .i64 (s.h1.ag 6), .int .i64 (s.h1.ag 7), .int .i64 s.h1.port, .int .i64 s.h1.age, .int .i64 s.h1.hold, .int .i64 s.h1.pos, .slice s.ta s.tn s.tc] 32)).alloc (.cells #[.int .i64 0, .int .i64 0, .int .i64 0, .int .i64 0, .slice none 0 0, .slice none 0 0, .int .i64 0, .int .i64 0, .int .i64 0, .int .i64 0, .int .i64 0, .int .i64 0, .int .i64 0, .int .i64 0, .int .i64 0, .int .i64 0, .int .i64 0, .int .i64 0, .int .i64 0, .int .i64 0, .int .i64 0, .int .i64 0, .int .i64 0, .int .i64 0, .int .i64 0, .int .i64 0, .int .i64 0, .int .i64 0, .int .i64 0, .int .i64 0] 36)) := (((Below.refl _ _).alloc (Nat.le_refl _) _).alloc (by simp) _)
 have qs : (((w.alloc (.cells #[.int .i64 n, .slice s.pa s.pn s.pc, .int .i64 s.c, .int .i64 s.v, .bool true, .slice s.na s.nn s.nc, .int .i64 (s.h0.ag 0), .int .i64 (s.h0.ag 1), .int .i64 (s.h0.ag 2), .int .i64 (s.h0.ag 3), .int .i64 (s.h0.ag 4), .int .i64 (s.h0.ag 5), .int .i64 (s.h0.ag 6), .int .i64 (s.h0.ag 7), .int .i64 s.h0.port, .int .i64 s.h0.age, .int .i64 s.h0.hold, .int .i64 s.h0.pos, .int .i64 (s.h1.ag 0), .int .i64 (s.h1.ag 1), .int .i64 (s.h1.ag 2), .int .i64 (s.h1.ag 3), .int .i64 (s.h1.ag 4), .int .i64 (s.h1.ag 5), .int .i64 (s.h1.ag 6), .int .i64 (s.h1.ag 7), .int .i64 s.h1.port, .int .i64 s.h1.age, .int .i64 s.h1.hold, .int .i64 s.h1.pos, .slice s.ta s.tn s.tc] 32)).alloc (.cells #[.int .i64 0, .int .i64 0, .int .i64 0, .int .i64 0, .slice none 0 0, .slice none 0 0, .int .i64 0, .int .i64 0, .int .i64 0, .int .i64 0, .int .i64 0, .int .i64 0, .int .i64 0, .int .i64 0, .int .i64 0, .int .i64 0, .int .i64 0, .int .i64 0, .int .i64 0, .int .i64 0, .int .i64 0, .int .i64 0, .int .i64 0, .int .i64 0, .int .i64 0, .int .i64 0, .int .i64 0, .int .i64 0, .int .i64 0, .int .i64 0] 36))).heap.size = w.heap.size + 1 + 1 := by simp only [World.size_alloc]
 generalize ((w.alloc (.cells #[.int .i64 n, .slice s.pa s.pn s.pc, .int .i64 s.c, .int .i64 s.v, .bool true, .slice s.na s.nn s.nc, .int .i64 (s.h0.ag 0), .int .i64 (s.h0.ag 1), .int .i64 (s.h0.ag 2), .int .i64 (s.h0.ag 3), .int .i64 (s.h0.ag 4), .int .i64 (s.h0.ag 5), .int .i64 (s.h0.ag 6), .int .i64 (s.h0.ag 7), .int .i64 s.h0.port, .int .i64 s.h0.age, .int .i64 s.h0.hold, .int .i64 s.h0.pos, .int .i64 (s.h1.ag 0), .int .i64 (s.h1.ag 1), .int .i64 (s.h1.ag 2), .int .i64 (s.h1.ag 3), .int .i64 (s.h1.ag 4), .int .i64 (s.h1.ag 5), .int .i64 (s.h1.ag 6), .int .i64 (s.h1.ag 7), .int .i64 s.h1.port, .int .i64 s.h1.age, .int .i64 s.h1.hold, .int .i64 s.h1.pos, .slice s.ta s.tn s.tc] 32)).alloc (.cells #[.int .i64 0, .int .i64 0, .int .i64 0, .int .i64 0, .slice none 0 0, .slice none 0 0, .int .i64 0, .int .i64 0, .int .i64 0, .int .i64 0, .int .i64 0, .int .i64 0, .int .i64 0, .int .i64 0, .int .i64 0, .int .i64 0, .int .i64 0, .int .i64 0, .int .i64 0, .int .i64 0, .int .i64 0, .int .i64 0, .int .i64 0, .int .i64 0, .int .i64 0, .int .i64 0, .int .i64 0, .int .i64 0, .int .i64 0, .int .i64 0] 36)) = w2 at *
 have R0 := Lib.hid q0
 have R1 := Lib.hid q1
 have HB := Lib.hid qb
 have c0 := q0.at_ 0 (.int .i64 n) rfl
 clear q0 q1 qb
 go_wp2_with fail
 refine (KR.out _).mono ?_
 rintro e w3 ⟨rfl, rfl⟩
 go_wp2_with fail
 refine wp_region_held_drew (S := (fun w' => w'.cell? ⟨w.heap.size, 0, none⟩ = some (.int .i64 n))) (by kernel_rfl) ?_ (fun hHeld => ?_)
 ·go_keep
 refine Rgn.tk 0 rfl ?_
 try simp only [Act.put, Rgn.a, Rgn.b, Rgn.c]
 refine Rgn.tk 1 rfl ?_
 try simp only [Act.put, Rgn.a, Rgn.b, Rgn.c]
 refine Rgn.tk 2 rfl ?_
 try simp only [Act.put, Rgn.a, Rgn.b, Rgn.c]
 refine Rgn.tk 3 rfl ?_
 try simp only [Act.put, Rgn.a, Rgn.b, Rgn.c]
 refine Rgn.one 4 rfl (by kernel_rfl) (fun K hK => ?_)
 go_simp
 refine hK.out _ _ ?_ (fun hHeld => ?_)
 ·go_keep
 clear hK K
 try simp only [Act.put, Rgn.a, Rgn.b, Rgn.c]
 refine Rgn.tk 5 rfl ?_
 try simp only [Act.put, Rgn.a, Rgn.b, Rgn.c]
 refine Rgn.one 6 rfl (by kernel_rfl) (fun K hK => ?_)
 go_simp
 refine hK.out _ _ ?_ (fun hHeld => ?_)
 ·go_keep
 clear hK K
 try simp only [Act.put, Rgn.a, Rgn.b, Rgn.c]
 refine Rgn.tk 7 rfl ?_
 try simp only [Act.put, Rgn.a, Rgn.b, Rgn.c]
 refine wpAnyH_done (by kernel_rfl) ?_ _
 have RG := Lib.hid (((Kit.Row.newAt w2 (madeCells #[Value.int .i64 0, .int .i64 0, .int .i64 0, .int .i64 0] (n * 4)) 60 (w.heap.size + 1 + 1) qs).cast (made_nodes n)).alloc (.cells #[.int .i64 n, .int .i64 0, .int .i64 0, .int .i64 0, .slice none 0 0, .slice (some ⟨w.heap.size + 1 + 1, 0, none⟩) n n, .int .i64 0, .int .i64 0, .int .i64 0, .int .i64 0, .int .i64 0, .int .i64 0, .int .i64 0, .int .i64 0, .int .i64 0, .int .i64 0, .int .i64 0, .int .i64 0, .int .i64 0, .int .i64 0, .int .i64 0, .int .i64 0, .int .i64 0, .int .i64 0, .int .i64 0, .int .i64 0, .int .i64 0, .int .i64 0, .int .i64 0, .int .i64 0] 36)).drew
 have RD := Lib.hid (Kit.Row.newAt (w2.alloc (.cells (madeCells #[Value.int .i64 0, .int .i64 0, .int .i64 0, .int .i64 0] (n * 4)) 60)) #[.int .i64 n, .int .i64 0, .int .i64 0, .int .i64 0, .slice none 0 0, .slice (some ⟨w.heap.size + 1 + 1, 0, none⟩) n n, .int .i64 0, .int .i64 0, .int .i64 0, .int .i64 0, .int .i64 0, .int .i64 0, .int .i64 0, .int .i64 0, .int .i64 0, .int .i64 0, .int .i64 0, .int .i64 0, .int .i64 0, .int .i64 0, .int .i64 0, .int .i64 0, .int .i64 0, .int .i64 0, .int .i64 0, .int .i64 0, .int .i64 0, .int .i64 0, .int .i64 0, .int .i64 0] 36 (w.heap.size + 1 + 1 + 1) (by rw [World.size_alloc, qs])).drew
 replace R0 := Lib.hid ((R0.out.alloc (.cells (madeCells #[Value.int .i64 0, .int .i64 0, .int .i64 0, .int .i64 0] (n * 4)) 60)).alloc (.cells #[.int .i64 n, .int .i64 0, .int .i64 0, .int .i64 0, .slice none 0 0, .slice (some ⟨w.heap.size + 1 + 1, 0, none⟩) n n, .int .i64 0, .int .i64 0, .int .i64 0, .int .i64 0, .int .i64 0, .int .i64 0, .int .i64 0, .int .i64 0, .int .i64 0, .int .i64 0, .int .i64 0, .int .i64 0, .int .i64 0, .int .i64 0, .int .i64 0, .int .i64 0, .int .i64 0, .int .i64 0, .int .i64 0, .int .i64 0, .int .i64 0, .int .i64 0, .int .i64 0, .int .i64 0] 36)).drew
 replace R1 := Lib.hid ((R1.out.alloc (.cells (madeCells #[Value.int .i64 0, .int .i64 0, .int .i64 0, .int .i64 0] (n * 4)) 60)).alloc (.cells #[.int .i64 n, .int .i64 0, .int .i64 0, .int .i64 0, .slice none 0 0, .slice (some ⟨w.heap.size + 1 + 1, 0, none⟩) n n, .int .i64 0, .int .i64 0, .int .i64 0, .int .i64 0, .int .i64 0, .int .i64 0, .int .i64 0, .int .i64 0, .int .i64 0, .int .i64 0, .int .i64 0, .int .i64 0, .int .i64 0, .int .i64 0, .int .i64 0, .int .i64 0, .int .i64 0, .int .i64 0, .int .i64 0, .int .i64 0, .int .i64 0, .int .i64 0, .int .i64 0, .int .i64 0] 36)).drew
 replace HB := Lib.hid ((HB.out.alloc (by omega) (.cells (madeCells #[Value.int .i64 0, .int .i64 0, .int .i64 0, .int .i64 0] (n * 4)) 60)).alloc (by rw [World.size_alloc]; omega) (.cells #[.int .i64 n, .int .i64 0, .int .i64 0, .int .i64 0, .slice none 0 0, .slice (some ⟨w.heap.size + 1 + 1, 0, none⟩) n n, .int .i64 0, .int .i64 0, .int .i64 0, .int .i64 0, .int .i64 0, .int .i64 0, .int .i64 0, .int .i64 0, .int .i64 0, .int .i64 0, .int .i64 0, .int .i64 0, .int .i64 0, .int .i64 0, .int .i64 0, .int .i64 0, .int .i64 0, .int .i64 0, .int .i64 0, .int .i64 0, .int .i64 0, .int .i64 0, .int .i64 0, .int .i64 0] 36)).drew
 clear hHeld c0 hmk
 generalize ((w2.alloc (.cells (madeCells #[Value.int .i64 0, .int .i64 0, .int .i64 0, .int .i64 0] (n * 4)) 60)).alloc (.cells #[.int .i64 n, .int .i64 0, .int .i64 0, .int .i64 0, .slice none 0 0, .slice (some ⟨w.heap.size + 1 + 1, 0, none⟩) n n, .int .i64 0, .int .i64 0, .int .i64 0, .int .i64 0, .int .i64 0, .int .i64 0, .int .i64 0, .int .i64 0, .int .i64 0, .int .i64 0, .int .i64 0, .int .i64 0, .int .i64 0, .int .i64 0, .int .i64 0, .int .i64 0, .int .i64 0, .int .i64 0, .int .i64 0, .int .i64 0, .int .i64 0, .int .i64 0, .int .i64 0, .int .i64 0] 36)).drew = w4 at *
 have c0 := R0.out.at_ 0 (.int .i64 n) rfl
 have c2 := R0.out.at_ 2 (.int .i64 s.c) rfl
 have c3 := R0.out.at_ 3 (.int .i64 s.v) rfl
 go_wp2_with fail
 refine (KC.out _).mono ?_
 rintro e w5 ⟨rfl, b5⟩
 replace RG := Lib.hid (RG.out.below b5)
 replace RD := Lib.hid (RD.out.below b5)
 replace R0 := Lib.hid (R0.out.below b5)
 replace R1 := Lib.hid (R1.out.below b5)
 replace HB := Lib.hid (HB.out.trans (b5.mono HB.out.size))
 clear b5 c0 c2 c3
 have d2 := RD.out.at_ 2 (.int .i64 0) rfl
 have d3 := RD.out.at_ 3 (.int .i64 0) rfl
 have z2 := RD.out.free 2 (by simp)
 have z3 := RD.out.free 3 (by simp)
 have k4 := R0.out.at_ 4 (.bool true) rfl
 dsimp only
 go_upto_region 8 with fail
 replace RD : Hid (Kit.Row _ (w.heap.size + 1 + 1 + 1) [.int .i64 n, .int .i64 0, .int .i64 fc, .int .i64 fv, .slice none 0 0, .slice (some ⟨w.heap.size + 1 + 1, 0, none⟩) n n, .int .i64 0, .int .i64 0, .int .i64 0, .int .i64 0, .int .i64 0, .int .i64 0, .int .i64 0, .int .i64 0, .int .i64 0, .int .i64 0, .int .i64 0, .int .i64 0, .int .i64 0, .int .i64 0, .int .i64 0, .int .i64 0, .int .i64 0, .int .i64 0, .int .i64 0, .int .i64 0, .int .i64 0, .int .i64 0, .int .i64 0, .int .i64 0]) := Lib.hid (((RD.out.set 2 (.int .i64 fc) (by simp)).set 3 (.int .i64 fv) (by simp)).cast rfl)
 replace RG := Lib.hid ((RG.out.far (w.heap.size + 1 + 1 + 1) 2 (.int .i64 fc) (by omega)).far (w.heap.size + 1 + 1 + 1) 3 (.int .i64 fv) (by omega))
 replace R0 := Lib.hid ((R0.out.far (w.heap.size + 1 + 1 + 1) 2 (.int .i64 fc) (by omega)).far (w.heap.size + 1 + 1 + 1) 3 (.int .i64 fv) (by omega))
 replace R1 := Lib.hid ((R1.out.far (w.heap.size + 1 + 1 + 1) 2 (.int .i64 fc) (by omega)).far (w.heap.size + 1 + 1 + 1) 3 (.int .i64 fv) (by omega))
 replace HB := Lib.hid ((HB.out.setCell (p := ⟨w.heap.size + 1 + 1 + 1, 2, none⟩) (show w.heap.size ≤ w.heap.size + 1 + 1 + 1 by omega) (.int .i64 fc)).setCell (p := ⟨w.heap.size + 1 + 1 + 1, 3, none⟩) (show w.heap.size ≤ w.heap.size + 1 + 1 + 1 by omega) (.int .i64 fv))
 clear d2 d3 z2 z3 k4
 generalize (w5.setCell ⟨w.heap.size + 1 + 1 + 1, 2, none⟩ (.int .i64 fc)).setCell ⟨w.heap.size + 1 + 1 + 1, 3, none⟩ (.int .i64 fv) = w6 at *
 iterate 4 (first | go_guarded | go_step | go_upon | go_back)
 refine Kit.wpList_load_row rfl 32 (.tmp 1) rfl w.heap.size 0 rfl R0.out [.int .i64 n, .slice s.pa s.pn s.pc, .int .i64 s.c, .int .i64 s.v, .bool true, .slice s.na s.nn s.nc, .int .i64 (s.h0.ag 0), .int .i64 (s.h0.ag 1), .int .i64 (s.h0.ag 2), .int .i64 (s.h0.ag 3), .int .i64 (s.h0.ag 4), .int .i64 (s.h0.ag 5), .int .i64 (s.h0.ag 6), .int .i64 (s.h0.ag 7), .int .i64 s.h0.port, .int .i64 s.h0.age, .int .i64 s.h0.hold, .int .i64 s.h0.pos, .int .i64 (s.h1.ag 0), .int .i64 (s.h1.ag 1), .int .i64 (s.h1.ag 2), .int .i64 (s.h1.ag 3), .int .i64 (s.h1.ag 4), .int .i64 (s.h1.ag 5), .int .i64 (s.h1.ag 6), .int .i64 (s.h1.ag 7), .int .i64 s.h1.port, .int .i64 s.h1.age, .int .i64 s.h1.hold, .int .i64 s.h1.pos, .slice s.ta s.tn s.tc] rfl _ Tryz.underlying32 rfl sizeScript ?_
 go_wp2_with fail
 refine (KL.out (w.heap.size + 1 + 1) (w.heap.size + 1 + 1 + 1) (w.heap.size + 1 + 1) fc fv _ (by omega) (Nat.le_refl _) (by omega) RD.out RG.out (fun W2 h2 => HP.out.below (HB.out.trans (h2.mono (by omega))))).mono ?_
 rintro e w7 ⟨rfl, p, rd, rg, hp7, rp, b7⟩
 have hs6 := HB.out.size
 have lg6 := RD.out.lt
 replace RD := Lib.hid rd
 replace RG := Lib.hid rg
 have RP := Lib.hid rp
 replace R1 := Lib.hid (R1.out.kept b7 (by omega))
 replace HB := Lib.hid (HB.out.trans (b7.mono (by omega)))
 clear rd rg rp b7 R0
 dsimp only
 go_upto_region 9 with fail
 iterate 7 (first | go_guarded | go_step | go_upon | go_back)
 refine Kit.wpList_load_row rfl 36 (.tmp 36) rfl (w.heap.size + 1 + 1 + 1) 0 rfl RD.out [.int .i64 n, .int .i64 0, .int .i64 fc, .int .i64 fv, .slice (some ⟨p, 0, none⟩) n n, .slice (some ⟨w.heap.size + 1 + 1, 0, none⟩) n n, .int .i64 ((Lc.hub n s.h0).ag 0), .int .i64 ((Lc.hub n s.h0).ag 1), .int .i64 ((Lc.hub n s.h0).ag 2), .int .i64 ((Lc.hub n s.h0).ag 3), .int .i64 ((Lc.hub n s.h0).ag 4), .int .i64 ((Lc.hub n s.h0).ag 5), .int .i64 ((Lc.hub n s.h0).ag 6), .int .i64 ((Lc.hub n s.h0).ag 7), .int .i64 ((Lc.hub n s.h0).port), .int .i64 ((Lc.hub n s.h0).age), .int .i64 ((Lc.hub n s.h0).hold), .int .i64 ((Lc.hub n s.h0).pos), .int .i64 ((Lc.hub n s.h1).ag 0), .int .i64 ((Lc.hub n s.h1).ag 1), .int .i64 ((Lc.hub n s.h1).ag 2), .int .i64 ((Lc.hub n s.h1).ag 3), .int .i64 ((Lc.hub n s.h1).ag 4), .int .i64 ((Lc.hub n s.h1).ag 5), .int .i64 ((Lc.hub n s.h1).ag 6), .int .i64 ((Lc.hub n s.h1).ag 7), .int .i64 ((Lc.hub n s.h1).port), .int .i64 ((Lc.hub n s.h1).age), .int .i64 ((Lc.hub n s.h1).hold), .int .i64 ((Lc.hub n s.h1).pos)] rfl _ Tryz.underlying36 rfl Sw.sizeWorld ?_
 refine Kit.wpList_store_row rfl 36 (.tmp 2) (.tmp 37) rfl (w.heap.size + 1) 0 #[.int .i64 n, .int .i64 0, .int .i64 fc, .int .i64 fv, .slice (some ⟨p, 0, none⟩) n n, .slice (some ⟨w.heap.size + 1 + 1, 0, none⟩) n n, .int .i64 ((Lc.hub n s.h0).ag 0), .int .i64 ((Lc.hub n s.h0).ag 1), .int .i64 ((Lc.hub n s.h0).ag 2), .int .i64 ((Lc.hub n s.h0).ag 3), .int .i64 ((Lc.hub n s.h0).ag 4), .int .i64 ((Lc.hub n s.h0).ag 5), .int .i64 ((Lc.hub n s.h0).ag 6), .int .i64 ((Lc.hub n s.h0).ag 7), .int .i64 ((Lc.hub n s.h0).port), .int .i64 ((Lc.hub n s.h0).age), .int .i64 ((Lc.hub n s.h0).hold), .int .i64 ((Lc.hub n s.h0).pos), .int .i64 ((Lc.hub n s.h1).ag 0), .int .i64 ((Lc.hub n s.h1).ag 1), .int .i64 ((Lc.hub n s.h1).ag 2), .int .i64 ((Lc.hub n s.h1).ag 3), .int .i64 ((Lc.hub n s.h1).ag 4), .int .i64 ((Lc.hub n s.h1).ag 5), .int .i64 ((Lc.hub n s.h1).ag 6), .int .i64 ((Lc.hub n s.h1).ag 7), .int .i64 ((Lc.hub n s.h1).port), .int .i64 ((Lc.hub n s.h1).age), .int .i64 ((Lc.hub n s.h1).hold), .int .i64 ((Lc.hub n s.h1).pos)] rfl rfl R1.out (by simp) Sw.sizeWorld (by first | rfl | (simp [Value.oneCell']; done) | decide) ?_
 intro W hW
 replace R1 : Hid (Kit.Row W (w.heap.size + 1) [.int .i64 n, .int .i64 0, .int .i64 fc, .int .i64 fv, .slice (some ⟨p, 0, none⟩) n n, .slice (some ⟨w.heap.size + 1 + 1, 0, none⟩) n n, .int .i64 ((Lc.hub n s.h0).ag 0), .int .i64 ((Lc.hub n s.h0).ag 1), .int .i64 ((Lc.hub n s.h0).ag 2), .int .i64 ((Lc.hub n s.h0).ag 3), .int .i64 ((Lc.hub n s.h0).ag 4), .int .i64 ((Lc.hub n s.h0).ag 5), .int .i64 ((Lc.hub n s.h0).ag 6), .int .i64 ((Lc.hub n s.h0).ag 7), .int .i64 ((Lc.hub n s.h0).port), .int .i64 ((Lc.hub n s.h0).age), .int .i64 ((Lc.hub n s.h0).hold), .int .i64 ((Lc.hub n s.h0).pos), .int .i64 ((Lc.hub n s.h1).ag 0), .int .i64 ((Lc.hub n s.h1).ag 1), .int .i64 ((Lc.hub n s.h1).ag 2), .int .i64 ((Lc.hub n s.h1).ag 3), .int .i64 ((Lc.hub n s.h1).ag 4), .int .i64 ((Lc.hub n s.h1).ag 5), .int .i64 ((Lc.hub n s.h1).ag 6), .int .i64 ((Lc.hub n s.h1).ag 7), .int .i64 ((Lc.hub n s.h1).port), .int .i64 ((Lc.hub n s.h1).age), .int .i64 ((Lc.hub n s.h1).hold), .int .i64 ((Lc.hub n s.h1).pos)]) := Lib.hid (R1.out.all hW rfl)
 replace RG := Lib.hid (RG.out.off hW (by omega))
 replace RP := Lib.hid (RP.out.off hW (by omega))
 replace HB := Lib.hid (Kit.below_of HB.out hW (by omega))
 clear hW
 go_wp2_with fail
 exact bodyPost_ret (Kit.res_ct Tryz.results12 _ _ (Kit.Var.mk' R1.out Tryz.underlying36 rfl Sw.sizeWorld)) rfl ⟨p, w.heap.size + 1 + 1, rfl, ⟨Whole.row RP.out (by simp), Nodes.row_of RG.out (by simp)⟩, by omega, by omega, HB.out⟩
end Nw
namespace Sw
def start1 (n : Nat) (s : Sc) (p G : Nat) : Wd := ({ n := n, tick := 0, c := if Flt.may n s.c s.v then s.c else 0, v := if Flt.may n s.c s.v then s.v else 0, pa := some ⟨p, 0, none⟩, pc := n, power := List.replicate n 0, na := some ⟨G, 0, none⟩, nc := n, nodes := (List.range n).map (fun i => Nc.made n i (ndAt (Cl.over n s.nodes) i)), h0 := Lc.hub n s.h0, h1 := Lc.hub n s.h1 } : Wd)
theorem start1_right (n : Nat) (s : Sc) (p G : Nat) (h3 : 3 ≤ n) (h8 : n ≤ 8) : (start1 n s p G).Right where
 lo := h3
 hi := h8
 tick := ⟨Int.le_refl _, by show (0 : Int) ≤ Wm.mostCount; unfold Wm.mostCount; omega⟩
 fault := by
  show Flt.may n (if Flt.may n s.c s.v then s.c else 0) (if Flt.may n s.c s.v then s.v else 0) = true
  split
  ·assumption
  ·exact may_none n h3
 pl := by show (List.replicate n (0 : Int)).length = n; simp
 pw := fun i hi => by
  show 0 ≤ (List.replicate n (0 : Int)).getD i 0 ∧ (List.replicate n (0 : Int)).getD i 0 ≤ 2000
  have e : (List.replicate n (0 : Int)).getD i 0 = 0 := by
   have hi' : i < n := hi
   simp [hi']
  rw [e]
  omega
 nl := by show ((List.range n).map (fun i => Nc.made n i (ndAt (Cl.over n s.nodes) i))).length = n; simp
 nd := fun i hi => by
  have hi' : i < n := hi
  have e : ndAt (start1 n s p G).nodes i = Nc.made n i (ndAt (Cl.over n s.nodes) i) := by
   show ndAt ((List.range n).map (fun i => Nc.made n i (ndAt (Cl.over n s.nodes) i))) i = _
   generalize Cl.over n s.nodes = l
   unfold ndAt
   simp [hi']
  rw [e]
  exact Nc.made_right n i _ h3
 r0 := Lc.hub_right n s.h0 h3 h8
 r1 := Lc.hub_right n s.h1 h3 h8
theorem all1_calls (n : Nat) (s : Sc) (w : World) (h3 : 3 ≤ n) (h8 : n ≤ 8) (hn : s.n = n) (hld : s.ld = true) (hp : Nodes w s.na s.nn s.nodes) (hl : Chs w s.ta s.tn s.ticks) (hm : s.tn ≤ 1000000) :
  Calls Tryz.prog 13 #[.agg s.cells.toArray] w fun e w' => ∃ p G A cap ads, e = .returned (.tuple #[.slice A s.tn cap, .agg (now (start1 n s p G) s.ticks ads).cells.toArray, .int .i64 0]) ∧ ads.length = s.tn ∧ Looks w' A s.tn (lks (start1 n s p G) s.ticks ads) ∧ Away w.heap.size A (lks (start1 n s p G) s.ticks ads) ∧ (now (start1 n s p G) s.ticks ads).There w' ∧ Below w.heap.size w w' := by
 refine (all_of s (fun x => ∃ p G, x = start1 n s p G) w hl hm ?_).mono ?_
 ·intro W hW
  have h1 := Nw.new1_calls n s W h3 h8 hn hld (hp.below hW)
  rw [hn, hld]
  refine h1.mono ?_
  rintro e w' ⟨p, G, rfl, ht, hp1, hG1, hb⟩
  refine ⟨start1 n s p G, ⟨p, G, rfl⟩, start1_right n s p G h3 h8, ?_, ht, ?_, ?_, hb⟩
  ·rfl
  ·intro b o e
   injection e with e
   injection e with e1 _ _
   omega
  ·intro b o e
   injection e with e
   injection e with e1 _ _
   omega
 ·rintro e w' ⟨x, A, cap, ads, ⟨p, G, rfl⟩, _, rfl, hn, hlk, haw, ht, hb⟩
  exact ⟨p, G, A, cap, ads, rfl, hn, hlk, haw, ht, hb⟩
theorem allr_calls (n : Nat) (s : Sc) (w : World) (h3 : 3 ≤ n) (h8 : n ≤ 8) (hn : s.n = n) (hs : Op.ScThere w s) (hm : s.tn ≤ 1000000) :
  Calls Tryz.prog 13 #[.agg s.cells.toArray] w fun e w' => ∃ (x : Wd) (A : Option Addr) (cap : Nat) (ads : List (Nat × Nat)), e = .returned (.tuple #[.slice A s.tn cap, .agg (now x s.ticks ads).cells.toArray, .int .i64 0]) ∧ x.Right ∧ x.n = n ∧ ads.length = s.tn ∧ Looks w' A s.tn (lks x s.ticks ads) ∧ (now x s.ticks ads).There w' ∧ Below w.heap.size w w' := by
 cases hld : s.ld with
 | false =>
  refine (all0_calls n s w h3 h8 hn hld hs.power hs.ticks hm).mono ?_
  rintro e w' ⟨p, G, A, cap, ads, rfl, hlen, hlk, _, hty, hb⟩
  exact ⟨_, A, cap, ads, rfl, start_right n s p G h3 h8, rfl, hlen, hlk, hty, hb⟩
 | true =>
  refine (all1_calls n s w h3 h8 hn hld hs.nodes hs.ticks hm).mono ?_
  rintro e w' ⟨p, G, A, cap, ads, rfl, hlen, hlk, _, hty, hb⟩
  exact ⟨_, A, cap, ads, rfl, start1_right n s p G h3 h8, rfl, hlen, hlk, hty, hb⟩
end Sw
end Go.Proofs.YtgiojagdmglinaaGreatDoor
namespace Go.Proofs.YtgiojagdmglinaaGreatDoor
open Go Go.RowKit
namespace Rf
set_option maxHeartbeats 400000 in
theorem r03_calls (n : Int) (w : World) (h3 : 3 ≤ n) (h8 : n ≤ 8) : Calls Tryz.prog 39 #[.int .i64 n] w fun e w' => e = .returned (.bool true) ∧ w = w' := by
 have g0 : decide (n ≥ 3) = true := decide_eq_true h3
 have g1 : decide (n ≤ 8) = true := decide_eq_true h8
 go_enter Tryz.func39, Tryz.ntmps39
 go_wp2_with fail
 go_ret
 exact ⟨rfl, rfl⟩
set_option maxHeartbeats 1000000 in
theorem r15_calls (n c v : Int) (w : World) (h3 : 3 ≤ n) (h8 : n ≤ 8) (hc : (c = 0 ∧ v = 0) ∨ (c = 1 ∧ 0 ≤ v ∧ v < n) ∨ (c = 2 ∧ 0 ≤ v ∧ v < 2)) :
  Calls Tryz.prog 40 #[.int .i64 n, .agg #[.int .i64 c, .int .i64 v]] w fun e w' => e = .returned (.bool true) ∧ Below w.heap.size w w' := by
 have k := fun W => r03_calls n W h3 h8
 have K := Lib.hid k
 clear k
 have gv : decide (v < 0) = false := decide_eq_false (by omega)
 rcases hc with ⟨rfl, rfl⟩ | ⟨rfl, h0, h1⟩ | ⟨rfl, h0, h1⟩
 ·go_enter Tryz.func40, Tryz.ntmps40
  go_wp2_with fail
  refine (K.out _).mono ?_
  rintro e w' ⟨rfl, rfl⟩
  go_wp2_with fail
  go_ret
  exact ⟨rfl, (Below.refl _ _).alloc (Nat.le_refl _) _⟩
 ·have g1 : decide (v < n) = true := decide_eq_true h1
  go_enter Tryz.func40, Tryz.ntmps40
  go_wp2_with fail
  refine (K.out _).mono ?_
  rintro e w' ⟨rfl, rfl⟩
  go_wp2_with fail
  go_ret
  exact ⟨rfl, (Below.refl _ _).alloc (Nat.le_refl _) _⟩
 ·have g1 : decide (v < 2) = true := decide_eq_true h1
  go_enter Tryz.func40, Tryz.ntmps40
  go_wp2_with fail
  refine (K.out _).mono ?_
  rintro e w' ⟨rfl, rfl⟩
  go_wp2_with fail
  go_ret
  exact ⟨rfl, (Below.refl _ _).alloc (Nat.le_refl _) _⟩
set_option maxHeartbeats 1000000 in
theorem r16_calls (A : Option Addr) (n cap : Nat) (P : List Int) (w : World) (h3 : 3 ≤ n) (h8 : n ≤ 8) (hp : Whole w A n P) (hr : ∀ i, i < n → 0 ≤ P.getD i 0 ∧ P.getD i 0 ≤ 2000) :
  Calls Tryz.prog 41 #[.int .i64 (n : Int), .slice A n cap] w fun e w' => e = .returned (.bool true) ∧ w = w' := by
 have k := fun W => r03_calls (n : Int) W (by omega) (by omega)
 have K := Lib.hid k
 have HP := Lib.hid hp
 have HR := Lib.hid hr
 clear k hp hr
 have gn : ((n : Int) == (n : Int)) = true := by simp
 go_enter Tryz.func41, Tryz.ntmps41
 go_wp2_with fail
 go_loopw [5] (fun vi wr => ∃ k : Nat, k ≤ n ∧ vi = .int .i64 k ∧ wr = w) (fun vi _ => n - (intOf vi).toNat)
 case atStart => exact ⟨0, by omega, rfl, rfl⟩
 case round =>
  obtain ⟨k, hk, rfl, rfl⟩ := hrel
  by_cases hlt : k < n
  ·have gk : decide ((k : Int) < (n : Int)) = true := decide_eq_true (by omega)
   obtain ⟨b, off, rfl, hb, m0⟩ := HP.out.at_ hlt
   obtain ⟨r0, r1⟩ := HR.out k hlt
   generalize P.getD k 0 = x at *
   have g0 : decide (x < 0) = false := decide_eq_false (by omega)
   have g1 : decide (x > 2000) = false := decide_eq_false (by omega)
   clear r0 r1
   go_wp2_with fail
   go_roundw
   case rel => exact ⟨k + 1, by omega, by go_num, by first | rfl | trivial⟩
   case measure => simp [intOf]; omega
  ·have gk : decide ((k : Int) < (n : Int)) = false := decide_eq_false (by omega)
   go_wp2_with fail
   refine (K.out _).mono ?_
   rintro e w' ⟨rfl, rfl⟩
   go_wp2_with fail
   go_ret
   exact ⟨rfl, rfl⟩
set_option maxHeartbeats 1000000 in
theorem r06_calls (n i : Nat) (x : Nd) (w : World) (h3 : 3 ≤ n) (h8 : n ≤ 8) (hi : i < n) (hr : Wm.NRight n i x) :
  Calls Tryz.prog 42 #[.int .i64 (n : Int), .agg #[.int .i64 x.id, .int .i64 x.md, .int .i64 x.ct, .int .i64 x.ps]] w fun e w' => e = .returned (.bool true) ∧ Below w.heap.size w w' := by
 have k := fun W => r03_calls (n : Int) W (by omega) (by omega)
 have K := Lib.hid k
 obtain ⟨a, m, c, p⟩ := x
 obtain ⟨h1, h2, h4, h5, h6, h7⟩ := hr
 simp only at h1 h2 h4 h5 h6 h7
 unfold Wm.mostCount at h4
 clear k
 have g0 : decide (a < 0) = false := decide_eq_false (by omega)
 have g1 : decide (a ≥ (n : Int)) = false := decide_eq_false (by omega)
 have g2 : decide (m < 0) = false := decide_eq_false (by omega)
 have g3 : decide (m > 3) = false := decide_eq_false (by omega)
 have g4 : decide (c < 0) = false := decide_eq_false (by omega)
 have g5 : decide (c > 1073741824) = false := decide_eq_false (by omega)
 have g6 : decide (p ≥ 0) = true := decide_eq_true (by omega)
 have g7 : decide (p < (n : Int)) = true := decide_eq_true (by omega)
 have hcase : (m = 0 ∧ c = 0 ∧ p = 0) ∨ ((m == 0) = false ∧ (m != 3) = true ∧ p = 0) ∨ m = 3 := by
  by_cases e0 : m = 0
  ·left; exact ⟨e0, h6 e0, h7 (by omega)⟩
  ·by_cases e3 : m = 3
   ·right; right; exact e3
   ·right; left; exact ⟨by simp [e0], by simp [e3], h7 e3⟩
 clear h1 h2 h4 h5 h6 h7
 rcases hcase with ⟨rfl, rfl, rfl⟩ | ⟨q0, q1, rfl⟩ | rfl
 all_goals
  go_enter Tryz.func42, Tryz.ntmps42
  go_wp2_with fail
  refine (K.out _).mono ?_
  rintro e w' ⟨rfl, rfl⟩
  go_wp2_with fail
  go_ret
  exact ⟨by first | rfl | (simp; omega), (Below.refl _ _).alloc (Nat.le_refl _) _⟩
set_option maxHeartbeats 400000 in
theorem in_calls (c m : Int) (w : World) (h0 : 0 ≤ c) (h1 : c ≤ m) : Calls Tryz.prog 73 #[.int .i64 c, .int .i64 m] w fun e w' => e = .returned (.bool true) ∧ w = w' := by
 have g0 : decide (c ≥ 0) = true := decide_eq_true h0
 have g1 : decide (c ≤ m) = true := decide_eq_true h1
 go_enter Tryz.func73, Tryz.ntmps73
 go_wp2_with fail
 go_ret
 exact ⟨rfl, rfl⟩
set_option maxHeartbeats 400000 in
theorem times_calls (n : Int) (w : World) (h3 : 3 ≤ n) (h8 : n ≤ 8) : Calls Tryz.prog 105 #[.int .i64 n, .int .i64 2] w fun e w' => e = .returned (.int .i64 (n * 2)) ∧ w = w' := by
 have k := fun W => r03_calls n W h3 h8
 have K := Lib.hid k
 clear k
 go_enter Tryz.func105, Tryz.ntmps105
 go_wp2_with fail
 refine (K.out _).mono ?_
 rintro e w' ⟨rfl, rfl⟩
 go_wp2_with fail
 go_ret
 exact ⟨rfl, rfl⟩
set_option maxHeartbeats 400000 in
theorem block_calls (n : Int) (w : World) (h3 : 3 ≤ n) (h8 : n ≤ 8) : Calls Tryz.prog 74 #[.int .i64 n] w fun e w' => e = .returned (.int .i64 (n * 2)) ∧ w = w' := by
 have k := fun W => times_calls n W h3 h8
 have K := Lib.hid k
 clear k
 go_enter Tryz.func74, Tryz.ntmps74
 go_wp2_with fail
 refine (K.out _).mono ?_
 rintro e w' ⟨rfl, rfl⟩
 go_wp2_with fail
 go_ret
 exact ⟨rfl, rfl⟩
end Rf
end Go.Proofs.YtgiojagdmglinaaGreatDoor
