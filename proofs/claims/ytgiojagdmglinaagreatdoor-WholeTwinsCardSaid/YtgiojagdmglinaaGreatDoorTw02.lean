/-
  Part 2 of a merged text.
-/
import Derived.Test.YtgiojagdmglinaaGreatDoorTw01
import Derived.Test.YtgiojagdmglinaaGreatDoorGb34
import Derived.ChangeKeysEq
import Derived.Laws.StructEq
set_option linter.unusedVariables false
set_option linter.unusedSimpArgs false
set_option maxRecDepth 100000
namespace Go.Proofs.YtgiojagdmglinaaGreatDoor
open Go Go.RowKit Vote
namespace Nw
set_option maxHeartbeats 1500000 in
theorem new1_calls (n : Nat) (s : Sc) (w : World) (h3 : 3 ≤ n) (h8 : n ≤ 8) (hn : s.n = n) (hld : s.ld = true) (hp : Nodes w s.na s.nn s.nodes) :
  Calls Tryz.prog 12 #[.agg #[.int .i64 n, .slice s.pa s.pn s.pc, .int .i64 s.c, .int .i64 s.v, .bool true, .slice s.na s.nn s.nc, .int .i64 (s.h0.ag 0), .int .i64 (s.h0.ag 1), .int .i64 (s.h0.ag 2), .int .i64 (s.h0.ag 3), .int .i64 (s.h0.ag 4), .int .i64 (s.h0.ag 5), .int .i64 (s.h0.ag 6), .int .i64 (s.h0.ag 7), .int .i64 s.h0.port, .int .i64 s.h0.age, .int .i64 s.h0.hold, .int .i64 s.h0.pos, .int .i64 (s.h1.ag 0), .int .i64 (s.h1.ag 1), .int .i64 (s.h1.ag 2), .int .i64 (s.h1.ag 3), .int .i64 (s.h1.ag 4), .int .i64 (s.h1.ag 5), .int .i64 (s.h1.ag 6), .int .i64 (s.h1.ag 7), .int .i64 s.h1.port, .int .i64 s.h1.age, .int .i64 s.h1.hold, .int .i64 s.h1.pos, .slice s.ta s.tn s.tc]] w
   fun e w' => ∃ p G, e = .returned (.tuple #[.agg (({ n := n, tick := 0, c := if Flt.may n s.c s.v then s.c else 0, v := if Flt.may n s.c s.v then s.v else 0, pa := some ⟨p, 0, none⟩, pc := n, power := List.replicate n 0, na := some ⟨G, 0, none⟩, nc := n, nodes := (List.range n).map (fun i => Nc.made n i (ndAt (Cl.over n s.nodes) i)), h0 := Lc.hub n s.h0, h1 := Lc.hub n s.h1 } : Wd)).cells.toArray, .int .i64 0]) ∧ (({ n := n, tick := 0, c := if Flt.may n s.c s.v then s.c else 0, v := if Flt.may n s.c s.v then s.v else 0, pa := some ⟨p, 0, none⟩, pc := n, power := List.replicate n 0, na := some ⟨G, 0, none⟩, nc := n, nodes := (List.range n).map (fun i => Nc.made n i (ndAt (Cl.over n s.nodes) i)), h0 := Lc.hub n s.h0, h1 := Lc.hub n s.h1 } : Wd)).There w' ∧ w.heap.size ≤ p ∧ w.heap.size ≤ G ∧ Below w.heap.size w w' := by
 have kr := fun W => Cf.right_calls (n : Int) W (by omega) (by omega)
 have kc := fun W => Flt.clean_calls (n : Int) s.c s.v W (by omega) (by omega)
 have kl := fun base D G c v W (hD : base ≤ D) (hG : base ≤ G) (hne : D ≠ G) hDw hGw (hW : ∀ W2, Below base W W2 → Nodes W2 s.na s.nn s.nodes) => loaded_calls base D G n c v s W h3 h8 hD hG hne hDw hGw hp.len hW
 rw [hn, hld] at kl
 generalize (if Flt.may n s.c s.v then s.c else 0) = fc at kc ⊢
 generalize (if Flt.may n s.c s.v then s.v else 0) = fv at kc ⊢
 have KR := Lib.hid kr
 have KC := Lib.hid kc
 have KL := Lib.hid kl
 have HP := Lib.hid hp
 clear kr kc kl hn hld hp
 have hmk := fun W => mk_nodes n h8 W
 go_enter Tryz.func12, Tryz.ntmps12
 go_upto_region 1 with fail
 have q0 : Kit.Row ((w.alloc (.cells #[.int .i64 n, .slice s.pa s.pn s.pc, .int .i64 s.c, .int .i64 s.v, .bool true, .slice s.na s.nn s.nc, .int .i64 (s.h0.ag 0), .int .i64 (s.h0.ag 1), .int .i64 (s.h0.ag 2), .int .i64 (s.h0.ag 3), .int .i64 (s.h0.ag 4), .int .i64 (s.h0.ag 5), .int .i64 (s.h0.ag 6), .int .i64 (s.h0.ag 7), .int .i64 s.h0.port, .int .i64 s.h0.age, .int .i64 s.h0.hold, .int .i64 s.h0.pos, .int .i64 (s.h1.ag 0), .int .i64 (s.h1.ag 1), .int .i64 (s.h1.ag 2), .int .i64 (s.h1.ag 3), .int .i64 (s.h1.ag 4), .int .i64 (s.h1.ag 5), .int .i64 (s.h1.ag 6), .int .i64 (s.h1.ag 7), .int .i64 s.h1.port, .int .i64 s.h1.age, .int .i64 s.h1.hold, .int .i64 s.h1.pos, .slice s.ta s.tn s.tc] 32)).alloc (.cells #[.int .i64 0, .int .i64 0, .int .i64 0, .int .i64 0, .slice none 0 0, .slice none 0 0, .int .i64 0, .int .i64 0, .int .i64 0, .int .i64 0, .int .i64 0, .int .i64 0, .int .i64 0, .int .i64 0, .int .i64 0, .int .i64 0, .int .i64 0, .int .i64 0, .int .i64 0, .int .i64 0, .int .i64 0, .int .i64 0, .int .i64 0, .int .i64 0, .int .i64 0, .int .i64 0, .int .i64 0, .int .i64 0, .int .i64 0, .int .i64 0] 36)) (w.heap.size) [.int .i64 n, .slice s.pa s.pn s.pc, .int .i64 s.c, .int .i64 s.v, .bool true, .slice s.na s.nn s.nc, .int .i64 (s.h0.ag 0), .int .i64 (s.h0.ag 1), .int .i64 (s.h0.ag 2), .int .i64 (s.h0.ag 3), .int .i64 (s.h0.ag 4), .int .i64 (s.h0.ag 5), .int .i64 (s.h0.ag 6), .int .i64 (s.h0.ag 7), .int .i64 s.h0.port, .int .i64 s.h0.age, .int .i64 s.h0.hold, .int .i64 s.h0.pos, .int .i64 (s.h1.ag 0), .int .i64 (s.h1.ag 1), .int .i64 (s.h1.ag 2), .int .i64 (s.h1.ag 3), .int .i64 (s.h1.ag 4), .int .i64 (s.h1.ag 5), .int .i64 (s.h1.ag 6), .int .i64 (s.h1.ag 7), .int .i64 s.h1.port, .int .i64 s.h1.age, .int .i64 s.h1.hold, .int .i64 s.h1.pos, .slice s.ta s.tn s.tc] := ((Kit.Row.new w _ _).alloc _)
 have q1 : Kit.Row ((w.alloc (.cells #[.int .i64 n, .slice s.pa s.pn s.pc, .int .i64 s.c, .int .i64 s.v, .bool true, .slice s.na s.nn s.nc, .int .i64 (s.h0.ag 0), .int .i64 (s.h0.ag 1), .int .i64 (s.h0.ag 2), .int .i64 (s.h0.ag 3), .int .i64 (s.h0.ag 4), .int .i64 (s.h0.ag 5), .int .i64 (s.h0.ag 6), .int .i64 (s.h0.ag 7), .int .i64 s.h0.port, .int .i64 s.h0.age, .int .i64 s.h0.hold, .int .i64 s.h0.pos, .int .i64 (s.h1.ag 0), .int .i64 (s.h1.ag 1), .int .i64 (s.h1.ag 2), .int .i64 (s.h1.ag 3), .int .i64 (s.h1.ag 4), .int .i64 (s.h1.ag 5), .int .i64 (s.h1.ag 6), .int .i64 (s.h1.ag 7), .int .i64 s.h1.port, .int .i64 s.h1.age, .int .i64 s.h1.hold, .int .i64 s.h1.pos, .slice s.ta s.tn s.tc] 32)).alloc (.cells #[.int .i64 0, .int .i64 0, .int .i64 0, .int .i64 0, .slice none 0 0, .slice none 0 0, .int .i64 0, .int .i64 0, .int .i64 0, .int .i64 0, .int .i64 0, .int .i64 0, .int .i64 0, .int .i64 0, .int .i64 0, .int .i64 0, .int .i64 0, .int .i64 0, .int .i64 0, .int .i64 0, .int .i64 0, .int .i64 0, .int .i64 0, .int .i64 0, .int .i64 0, .int .i64 0, .int .i64 0, .int .i64 0, .int .i64 0, .int .i64 0] 36)) (w.heap.size + 1) [.int .i64 0, .int .i64 0, .int .i64 0, .int .i64 0, .slice none 0 0, .slice none 0 0, .int .i64 0, .int .i64 0, .int .i64 0, .int .i64 0, .int .i64 0, .int .i64 0, .int .i64 0, .int .i64 0, .int .i64 0, .int .i64 0, .int .i64 0, .int .i64 0, .int .i64 0, .int .i64 0, .int .i64 0, .int .i64 0, .int .i64 0, .int .i64 0, .int .i64 0, .int .i64 0, .int .i64 0, .int .i64 0, .int .i64 0, .int .i64 0] := (Kit.Row.newAt _ _ _ _ (by simp))
 have qb : Below w.heap.size w ((w.alloc (.cells #[.int .i64 n, .slice s.pa s.pn s.pc, .int .i64 s.c, .int .i64 s.v, .bool true, .slice s.na s.nn s.nc, .int .i64 (s.h0.ag 0), .int .i64 (s.h0.ag 1), .int .i64 (s.h0.ag 2), .int .i64 (s.h0.ag 3), .int .i64 (s.h0.ag 4), .int .i64 (s.h0.ag 5), .int .i64 (s.h0.ag 6), .int .i64 (s.h0.ag 7), .int .i64 s.h0.port, .int .i64 s.h0.age, .int .i64 s.h0.hold, .int .i64 s.h0.pos, .int .i64 (s.h1.ag 0), .int .i64 (s.h1.ag 1), .int .i64 (s.h1.ag 2), .int .i64 (s.h1.ag 3), .int .i64 (s.h1.ag 4), .int .i64 (s.h1.ag 5), .int .i64 (s.h1.ag 6), .int .i64 (s.h1.ag 7), .int .i64 s.h1.port, .int .i64 s.h1.age, .int .i64 s.h1.hold, .int .i64 s.h1.pos, .slice s.ta s.tn s.tc] 32)).alloc (.cells #[.int .i64 0, .int .i64 0, .int .i64 0, .int .i64 0, .slice none 0 0, .slice none 0 0, .int .i64 0, .int .i64 0, .int .i64 0, .int .i64 0, .int .i64 0, .int .i64 0, .int .i64 0, .int .i64 0, .int .i64 0, .int .i64 0, .int .i64 0, .int .i64 0, .int .i64 0, .int .i64 0, .int .i64 0, .int .i64 0, .int .i64 0, .int .i64 0, .int .i64 0, .int .i64 0, .int .i64 0, .int .i64 0, .int .i64 0, .int .i64 0] 36)) := (((Below.refl _ _).alloc (Nat.le_refl _) _).alloc (by simp) _)
 have qs : (((w.alloc (.cells #[.int .i64 n, .slice s.pa s.pn s.pc, .int .i64 s.c, .int .i64 s.v, .bool true, .slice s.na s.nn s.nc, .int .i64 (s.h0.ag 0), .int .i64 (s.h0.ag 1), .int .i64 (s.h0.ag 2), .int .i64 (s.h0.ag 3), .int .i64 (s.h0.ag 4), .int .i64 (s.h0.ag 5), .int .i64 (s.h0.ag 6), .int .i64 (s.h0.ag 7), .int .i64 s.h0.port, .int .i64 s.h0.age, .int .i64 s.h0.hold, .int .i64 s.h0.pos, .int .i64 (s.h1.ag 0), .int .i64 (s.h1.ag 1), .int .i64 (s.h1.ag 2), .int .i64 (s.h1.ag 3), .int .i64 (s.h1.ag 4), .int .i64 (s.h1.ag 5), .int .i64 (s.h1.ag 6), .int .i64 (s.h1.ag 7), .int .i64 s.h1.port, .int .i64 s.h1.age, .int .i64 s.h1.hold, .int .i64 s.h1.pos, .slice s.ta s.tn s.tc] 32)).alloc (.cells #[.int .i64 0, .int .i64 0, .int .i64 0, .int .i64 0, .slice none 0 0, .slice none 0 0, .int .i64 0, .int .i64 0, .int .i64 0, .int .i64 0, .int .i64 0, .int .i64 0, .int .i64 0, .int .i64 0, .int .i64 0, .int .i64 0, .int .i64 0, .int .i64 0, .int .i64 0, .int .i64 0, .int .i64 0, .int .i64 0, .int .i64 0, .int .i64 0, .int .i64 0, .int .i64 0, .int .i64 0, .int .i64 0, .int .i64 0, .int .i64 0] 36))).heap.size = w.heap.size + 1 + 1 := by simp only [World.size_alloc]
 generalize ((w.alloc (.cells #[.int .i64 n, .slice s.pa s.pn s.pc, .int .i64 s.c, .int .i64 s.v, .bool true, .slice s.na s.nn s.nc, .int .i64 (s.h0.ag 0), .int .i64 (s.h0.ag 1), .int .i64 (s.h0.ag 2), .int .i64 (s.h0.ag 3), .int .i64 (s.h0.ag 4), .int .i64 (s.h0.ag 5), .int .i64 (s.h0.ag 6), .int .i64 (s.h0.ag 7), .int .i64 s.h0.port, .int .i64 s.h0.age, .int .i64 s.h0.hold, .int .i64 s.h0.pos, .int .i64 (s.h1.ag 0), .int .i64 (s.h1.ag 1), .int .i64 (s.h1.ag 2), .int .i64 (s.h1.ag 3), .int .i64 (s.h1.ag 4), .int .i64 (s.h1.ag 5), .int .i64 (s.h1.ag 6), .int .i64 (s.h1.ag 7), .int .i64 s.h1.port, .int .i64 s.h1.age, .int .i64 s.h1.hold, .int .i64 s.h1.pos, .slice s.ta s.tn s.tc] 32)).alloc (.cells #[.int .i64 0, .int .i64 0, .int .i64 0, .int .i64 0, .slice none 0 0, .slice none 0 0, .int .i64 0, .int .i64 0, .int .i64 0, .int .i64 0, .int .i64 0, .int .i64 0, .int .i64 0, .int .i64 0, .int .i64 0, .int .i64 0, .int .i64 0, .int .i64 0, .int .i64 0, .int .i64 0, .int .i64 0, .int .i64 0, .int .i64 0, .int .i64 0, .int .i64 0, .int .i64 0, .int .i64 0, .int .i64 0, .int .i64 0, .int .i64 0] 36)) = w2 at *
 have R0 := Lib.hid q0
 have R1 := Lib.hid q1
 have HB := Lib.hid qb
 have c0 := q0.at_ 0 (.int .i64 n) rfl
 clear q0 q1 qb
 go_wp2_with fail
 refine (KR.out _).mono ?_
 rintro e w3 ⟨rfl, rfl⟩
 go_wp2_with fail
 refine wp_region_held_drew (S := (fun w' => w'.cell? ⟨w.heap.size, 0, none⟩ = some (.int .i64 n))) (by kernel_rfl) ?_ (fun hHeld => ?_)
 ·go_keep
 refine Rgn.tk 0 rfl ?_
 try simp only [Act.put, Rgn.a, Rgn.b, Rgn.c]
 refine Rgn.tk 1 rfl ?_
 try simp only [Act.put, Rgn.a, Rgn.b, Rgn.c]
 refine Rgn.tk 2 rfl ?_
 try simp only [Act.put, Rgn.a, Rgn.b, Rgn.c]
 refine Rgn.tk 3 rfl ?_
 try simp only [Act.put, Rgn.a, Rgn.b, Rgn.c]
 refine Rgn.one 4 rfl (by kernel_rfl) (fun K hK => ?_)
 go_simp
 refine hK.out _ _ ?_ (fun hHeld => ?_)
 ·go_keep
 clear hK K
 try simp only [Act.put, Rgn.a, Rgn.b, Rgn.c]
 refine Rgn.tk 5 rfl ?_
 try simp only [Act.put, Rgn.a, Rgn.b, Rgn.c]
 refine Rgn.one 6 rfl (by kernel_rfl) (fun K hK => ?_)
 go_simp
 refine hK.out _ _ ?_ (fun hHeld => ?_)
 ·go_keep
 clear hK K
 try simp only [Act.put, Rgn.a, Rgn.b, Rgn.c]
 refine Rgn.tk 7 rfl ?_
 try simp only [Act.put, Rgn.a, Rgn.b, Rgn.c]
 refine wpAnyH_done (by kernel_rfl) ?_ _
 have RG := Lib.hid (((Kit.Row.newAt w2 (madeCells #[Value.int .i64 0, .int .i64 0, .int .i64 0, .int .i64 0] (n * 4)) 60 (w.heap.size + 1 + 1) qs).cast (made_nodes n)).alloc (.cells #[.int .i64 n, .int .i64 0, .int .i64 0, .int .i64 0, .slice none 0 0, .slice (some ⟨w.heap.size + 1 + 1, 0, none⟩) n n, .int .i64 0, .int .i64 0, .int .i64 0, .int .i64 0, .int .i64 0, .int .i64 0, .int .i64 0, .int .i64 0, .int .i64 0, .int .i64 0, .int .i64 0, .int .i64 0, .int .i64 0, .int .i64 0, .int .i64 0, .int .i64 0, .int .i64 0, .int .i64 0, .int .i64 0, .int .i64 0, .int .i64 0, .int .i64 0, .int .i64 0, .int .i64 0] 36)).drew
 have RD := Lib.hid (Kit.Row.newAt (w2.alloc (.cells (madeCells #[Value.int .i64 0, .int .i64 0, .int .i64 0, .int .i64 0] (n * 4)) 60)) #[.int .i64 n, .int .i64 0, .int .i64 0, .int .i64 0, .slice none 0 0, .slice (some ⟨w.heap.size + 1 + 1, 0, none⟩) n n, .int .i64 0, .int .i64 0, .int .i64 0, .int .i64 0, .int .i64 0, .int .i64 0, .int .i64 0, .int .i64 0, .int .i64 0, .int .i64 0, .int .i64 0, .int .i64 0, .int .i64 0, .int .i64 0, .int .i64 0, .int .i64 0, .int .i64 0, .int .i64 0, .int .i64 0, .int .i64 0, .int .i64 0, .int .i64 0, .int .i64 0, .int .i64 0] 36 (w.heap.size + 1 + 1 + 1) (by rw [World.size_alloc, qs])).drew
 replace R0 := Lib.hid ((R0.out.alloc (.cells (madeCells #[Value.int .i64 0, .int .i64 0, .int .i64 0, .int .i64 0] (n * 4)) 60)).alloc (.cells #[.int .i64 n, .int .i64 0, .int .i64 0, .int .i64 0, .slice none 0 0, .slice (some ⟨w.heap.size + 1 + 1, 0, none⟩) n n, .int .i64 0, .int .i64 0, .int .i64 0, .int .i64 0, .int .i64 0, .int .i64 0, .int .i64 0, .int .i64 0, .int .i64 0, .int .i64 0, .int .i64 0, .int .i64 0, .int .i64 0, .int .i64 0, .int .i64 0, .int .i64 0, .int .i64 0, .int .i64 0, .int .i64 0, .int .i64 0, .int .i64 0, .int .i64 0, .int .i64 0, .int .i64 0] 36)).drew
 replace R1 := Lib.hid ((R1.out.alloc (.cells (madeCells #[Value.int .i64 0, .int .i64 0, .int .i64 0, .int .i64 0] (n * 4)) 60)).alloc (.cells #[.int .i64 n, .int .i64 0, .int .i64 0, .int .i64 0, .slice none 0 0, .slice (some ⟨w.heap.size + 1 + 1, 0, none⟩) n n, .int .i64 0, .int .i64 0, .int .i64 0, .int .i64 0, .int .i64 0, .int .i64 0, .int .i64 0, .int .i64 0, .int .i64 0, .int .i64 0, .int .i64 0, .int .i64 0, .int .i64 0, .int .i64 0, .int .i64 0, .int .i64 0, .int .i64 0, .int .i64 0, .int .i64 0, .int .i64 0, .int .i64 0, .int .i64 0, .int .i64 0, .int .i64 0] 36)).drew
 replace HB := Lib.hid ((HB.out.alloc (by omega) (.cells (madeCells #[Value.int .i64 0, .int .i64 0, .int .i64 0, .int .i64 0] (n * 4)) 60)).alloc (by rw [World.size_alloc]; omega) (.cells #[.int .i64 n, .int .i64 0, .int .i64 0, .int .i64 0, .slice none 0 0, .slice (some ⟨w.heap.size + 1 + 1, 0, none⟩) n n, .int .i64 0, .int .i64 0, .int .i64 0, .int .i64 0, .int .i64 0, .int .i64 0, .int .i64 0, .int .i64 0, .int .i64 0, .int .i64 0, .int .i64 0, .int .i64 0, .int .i64 0, .int .i64 0, .int .i64 0, .int .i64 0, .int .i64 0, .int .i64 0, .int .i64 0, .int .i64 0, .int .i64 0, .int .i64 0, .int .i64 0, .int .i64 0] 36)).drew
 clear hHeld c0 hmk
 generalize ((w2.alloc (.cells (madeCells #[Value.int .i64 0, .int .i64 0, .int .i64 0, .int .i64 0] (n * 4)) 60)).alloc (.cells #[.int .i64 n, .int .i64 0, .int .i64 0, .int .i64 0, .slice none 0 0, .slice (some ⟨w.heap.size + 1 + 1, 0, none⟩) n n, .int .i64 0, .int .i64 0, .int .i64 0, .int .i64 0, .int .i64 0, .int .i64 0, .int .i64 0, .int .i64 0, .int .i64 0, .int .i64 0, .int .i64 0, .int .i64 0, .int .i64 0, .int .i64 0, .int .i64 0, .int .i64 0, .int .i64 0, .int .i64 0, .int .i64 0, .int .i64 0, .int .i64 0, .int .i64 0, .int .i64 0, .int .i64 0] 36)).drew = w4 at *
 have c0 := R0.out.at_ 0 (.int .i64 n) rfl
 have c2 := R0.out.at_ 2 (.int .i64 s.c) rfl
 have c3 := R0.out.at_ 3 (.int .i64 s.v) rfl
 go_wp2_with fail
 refine (KC.out _).mono ?_
 rintro e w5 ⟨rfl, b5⟩
 replace RG := Lib.hid (RG.out.below b5)
 replace RD := Lib.hid (RD.out.below b5)
 replace R0 := Lib.hid (R0.out.below b5)
 replace R1 := Lib.hid (R1.out.below b5)
 replace HB := Lib.hid (HB.out.trans (b5.mono HB.out.size))
 clear b5 c0 c2 c3
 have d2 := RD.out.at_ 2 (.int .i64 0) rfl
 have d3 := RD.out.at_ 3 (.int .i64 0) rfl
 have z2 := RD.out.free 2 (by simp)
 have z3 := RD.out.free 3 (by simp)
 have k4 := R0.out.at_ 4 (.bool true) rfl
 dsimp only
 go_upto_region 8 with fail
 replace RD : Hid (Kit.Row _ (w.heap.size + 1 + 1 + 1) [.int .i64 n, .int .i64 0, .int .i64 fc, .int .i64 fv, .slice none 0 0, .slice (some ⟨w.heap.size + 1 + 1, 0, none⟩) n n, .int .i64 0, .int .i64 0, .int .i64 0, .int .i64 0, .int .i64 0, .int .i64 0, .int .i64 0, .int .i64 0, .int .i64 0, .int .i64 0, .int .i64 0, .int .i64 0, .int .i64 0, .int .i64 0, .int .i64 0, .int .i64 0, .int .i64 0, .int .i64 0, .int .i64 0, .int .i64 0, .int .i64 0, .int .i64 0, .int .i64 0, .int .i64 0]) := Lib.hid (((RD.out.set 2 (.int .i64 fc) (by simp)).set 3 (.int .i64 fv) (by simp)).cast rfl)
 replace RG := Lib.hid ((RG.out.far (w.heap.size + 1 + 1 + 1) 2 (.int .i64 fc) (by omega)).far (w.heap.size + 1 + 1 + 1) 3 (.int .i64 fv) (by omega))
 replace R0 := Lib.hid ((R0.out.far (w.heap.size + 1 + 1 + 1) 2 (.int .i64 fc) (by omega)).far (w.heap.size + 1 + 1 + 1) 3 (.int .i64 fv) (by omega))
 replace R1 := Lib.hid ((R1.out.far (w.heap.size + 1 + 1 + 1) 2 (.int .i64 fc) (by omega)).far (w.heap.size + 1 + 1 + 1) 3 (.int .i64 fv) (by omega))
 replace HB := Lib.hid ((HB.out.setCell (p := ⟨w.heap.size + 1 + 1 + 1, 2, none⟩) (show w.heap.size ≤ w.heap.size + 1 + 1 + 1 by omega) (.int .i64 fc)).setCell (p := ⟨w.heap.size + 1 + 1 + 1, 3, none⟩) (show w.heap.size ≤ w.heap.size + 1 + 1 + 1 by omega) (.int .i64 fv))
 clear d2 d3 z2 z3 k4
 generalize (w5.setCell ⟨w.heap.size + 1 + 1 + 1, 2, none⟩ (.int .i64 fc)).setCell ⟨w.heap.size + 1 + 1 + 1, 3, none⟩ (.int .i64 fv) = w6 at *
 iterate 4 (first | go_guarded | go_step | go_upon | go_back)
 refine Kit.wpList_load_row rfl 32 (.tmp 1) rfl w.heap.size 0 rfl R0.out [.int .i64 n, .slice s.pa s.pn s.pc, .int .i64 s.c, .int .i64 s.v, .bool true, .slice s.na s.nn s.nc, .int .i64 (s.h0.ag 0), .int .i64 (s.h0.ag 1), .int .i64 (s.h0.ag 2), .int .i64 (s.h0.ag 3), .int .i64 (s.h0.ag 4), .int .i64 (s.h0.ag 5), .int .i64 (s.h0.ag 6), .int .i64 (s.h0.ag 7), .int .i64 s.h0.port, .int .i64 s.h0.age, .int .i64 s.h0.hold, .int .i64 s.h0.pos, .int .i64 (s.h1.ag 0), .int .i64 (s.h1.ag 1), .int .i64 (s.h1.ag 2), .int .i64 (s.h1.ag 3), .int .i64 (s.h1.ag 4), .int .i64 (s.h1.ag 5), .int .i64 (s.h1.ag 6), .int .i64 (s.h1.ag 7), .int .i64 s.h1.port, .int .i64 s.h1.age, .int .i64 s.h1.hold, .int .i64 s.h1.pos, .slice s.ta s.tn s.tc] rfl _ Tryz.underlying32 rfl sizeScript ?_
 go_wp2_with fail
 refine (KL.out (w.heap.size + 1 + 1) (w.heap.size + 1 + 1 + 1) (w.heap.size + 1 + 1) fc fv _ (by omega) (Nat.le_refl _) (by omega) RD.out RG.out (fun W2 h2 => HP.out.below (HB.out.trans (h2.mono (by omega))))).mono ?_
 rintro e w7 ⟨rfl, p, rd, rg, hp7, rp, b7⟩
 have hs6 := HB.out.size
 have lg6 := RD.out.lt
 replace RD := Lib.hid rd
 replace RG := Lib.hid rg
 have RP := Lib.hid rp
 replace R1 := Lib.hid (R1.out.kept b7 (by omega))
 replace HB := Lib.hid (HB.out.trans (b7.mono (by omega)))
 clear rd rg rp b7 R0
 dsimp only
 go_upto_region 9 with fail
 iterate 7 (first | go_guarded | go_step | go_upon | go_back)
 refine Kit.wpList_load_row rfl 36 (.tmp 36) rfl (w.heap.size + 1 + 1 + 1) 0 rfl RD.out [.int .i64 n, .int .i64 0, .int .i64 fc, .int .i64 fv, .slice (some ⟨p, 0, none⟩) n n, .slice (some ⟨w.heap.size + 1 + 1, 0, none⟩) n n, .int .i64 ((Lc.hub n s.h0).ag 0), .int .i64 ((Lc.hub n s.h0).ag 1), .int .i64 ((Lc.hub n s.h0).ag 2), .int .i64 ((Lc.hub n s.h0).ag 3), .int .i64 ((Lc.hub n s.h0).ag 4), .int .i64 ((Lc.hub n s.h0).ag 5), .int .i64 ((Lc.hub n s.h0).ag 6), .int .i64 ((Lc.hub n s.h0).ag 7), .int .i64 ((Lc.hub n s.h0).port), .int .i64 ((Lc.hub n s.h0).age), .int .i64 ((Lc.hub n s.h0).hold), .int .i64 ((Lc.hub n s.h0).pos), .int .i64 ((Lc.hub n s.h1).ag 0), .int .i64 ((Lc.hub n s.h1).ag 1), .int .i64 ((Lc.hub n s.h1).ag 2), .int .i64 ((Lc.hub n s.h1).ag 3), .int .i64 ((Lc.hub n s.h1).ag 4), .int .i64 ((Lc.hub n s.h1).ag 5), .int .i64 ((Lc.hub n s.h1).ag 6), .int .i64 ((Lc.hub n s.h1).ag 7), .int .i64 ((Lc.hub n s.h1).port), .int .i64 ((Lc.hub n s.h1).age), .int .i64 ((Lc.hub n s.h1).hold), .int .i64 ((Lc.hub n s.h1).pos)] rfl _ Tryz.underlying36 rfl Sw.sizeWorld ?_
 refine Kit.wpList_store_row rfl 36 (.tmp 2) (.tmp 37) rfl (w.heap.size + 1) 0 #[.int .i64 n, .int .i64 0, .int .i64 fc, .int .i64 fv, .slice (some ⟨p, 0, none⟩) n n, .slice (some ⟨w.heap.size + 1 + 1, 0, none⟩) n n, .int .i64 ((Lc.hub n s.h0).ag 0), .int .i64 ((Lc.hub n s.h0).ag 1), .int .i64 ((Lc.hub n s.h0).ag 2), .int .i64 ((Lc.hub n s.h0).ag 3), .int .i64 ((Lc.hub n s.h0).ag 4), .int .i64 ((Lc.hub n s.h0).ag 5), .int .i64 ((Lc.hub n s.h0).ag 6), .int .i64 ((Lc.hub n s.h0).ag 7), .int .i64 ((Lc.hub n s.h0).port), .int .i64 ((Lc.hub n s.h0).age), .int .i64 ((Lc.hub n s.h0).hold), .int .i64 ((Lc.hub n s.h0).pos), .int .i64 ((Lc.hub n s.h1).ag 0), .int .i64 ((Lc.hub n s.h1).ag 1), .int .i64 ((Lc.hub n s.h1).ag 2), .int .i64 ((Lc.hub n s.h1).ag 3), .int .i64 ((Lc.hub n s.h1).ag 4), .int .i64 ((Lc.hub n s.h1).ag 5), .int .i64 ((Lc.hub n s.h1).ag 6), .int .i64 ((Lc.hub n s.h1).ag 7), .int .i64 ((Lc.hub n s.h1).port), .int .i64 ((Lc.hub n s.h1).age), .int .i64 ((Lc.hub n s.h1).hold), .int .i64 ((Lc.hub n s.h1).pos)] rfl rfl R1.out (by simp) Sw.sizeWorld (by first | rfl | (simp [Value.oneCell']; done) | decide) ?_
 intro W hW
 replace R1 : Hid (Kit.Row W (w.heap.size + 1) [.int .i64 n, .int .i64 0, .int .i64 fc, .int .i64 fv, .slice (some ⟨p, 0, none⟩) n n, .slice (some ⟨w.heap.size + 1 + 1, 0, none⟩) n n, .int .i64 ((Lc.hub n s.h0).ag 0), .int .i64 ((Lc.hub n s.h0).ag 1), .int .i64 ((Lc.hub n s.h0).ag 2), .int .i64 ((Lc.hub n s.h0).ag 3), .int .i64 ((Lc.hub n s.h0).ag 4), .int .i64 ((Lc.hub n s.h0).ag 5), .int .i64 ((Lc.hub n s.h0).ag 6), .int .i64 ((Lc.hub n s.h0).ag 7), .int .i64 ((Lc.hub n s.h0).port), .int .i64 ((Lc.hub n s.h0).age), .int .i64 ((Lc.hub n s.h0).hold), .int .i64 ((Lc.hub n s.h0).pos), .int .i64 ((Lc.hub n s.h1).ag 0), .int .i64 ((Lc.hub n s.h1).ag 1), .int .i64 ((Lc.hub n s.h1).ag 2), .int .i64 ((Lc.hub n s.h1).ag 3), .int .i64 ((Lc.hub n s.h1).ag 4), .int .i64 ((Lc.hub n s.h1).ag 5), .int .i64 ((Lc.hub n s.h1).ag 6), .int .i64 ((Lc.hub n s.h1).ag 7), .int .i64 ((Lc.hub n s.h1).port), .int .i64 ((Lc.hub n s.h1).age), .int .i64 ((Lc.hub n s.h1).hold), .int .i64 ((Lc.hub n s.h1).pos)]) := Lib.hid (R1.out.all hW rfl)
 replace RG := Lib.hid (RG.out.off hW (by omega))
 replace RP := Lib.hid (RP.out.off hW (by omega))
 replace HB := Lib.hid (Kit.below_of HB.out hW (by omega))
 clear hW
 go_wp2_with fail
 exact bodyPost_ret (Kit.res_ct Tryz.results12 _ _ (Kit.Var.mk' R1.out Tryz.underlying36 rfl Sw.sizeWorld)) rfl ⟨p, w.heap.size + 1 + 1, rfl, ⟨Whole.row RP.out (by simp), Nodes.row_of RG.out (by simp)⟩, by omega, by omega, HB.out⟩
end Nw
namespace Sw
def start1 (n : Nat) (s : Sc) (p G : Nat) : Wd := ({ n := n, tick := 0, c := if Flt.may n s.c s.v then s.c else 0, v := if Flt.may n s.c s.v then s.v else 0, pa := some ⟨p, 0, none⟩, pc := n, power := List.replicate n 0, na := some ⟨G, 0, none⟩, nc := n, nodes := (List.range n).map (fun i => Nc.made n i (ndAt (Cl.over n s.nodes) i)), h0 := Lc.hub n s.h0, h1 := Lc.hub n s.h1 } : Wd)
theorem start1_right (n : Nat) (s : Sc) (p G : Nat) (h3 : 3 ≤ n) (h8 : n ≤ 8) : (start1 n s p G).Right where
 lo := h3
 hi := h8
 tick := ⟨Int.le_refl _, by show (0 : Int) ≤ Wm.mostCount; unfold Wm.mostCount; omega⟩
 fault := by
  show Flt.may n (if Flt.may n s.c s.v then s.c else 0) (if Flt.may n s.c s.v then s.v else 0) = true
  split
  ·assumption
  ·exact may_none n h3
 pl := by show (List.replicate n (0 : Int)).length = n; simp
 pw := fun i hi => by
  show 0 ≤ (List.replicate n (0 : Int)).getD i 0 ∧ (List.replicate n (0 : Int)).getD i 0 ≤ 2000
  have e : (List.replicate n (0 : Int)).getD i 0 = 0 := by
   have hi' : i < n := hi
   simp [hi']
  rw [e]
  omega
 nl := by show ((List.range n).map (fun i => Nc.made n i (ndAt (Cl.over n s.nodes) i))).length = n; simp
 nd := fun i hi => by
  have hi' : i < n := hi
  have e : ndAt (start1 n s p G).nodes i = Nc.made n i (ndAt (Cl.over n s.nodes) i) := by
   show ndAt ((List.range n).map (fun i => Nc.made n i (ndAt (Cl.over n s.nodes) i))) i = _
   generalize Cl.over n s.nodes = l
   unfold ndAt
   simp [hi']
  rw [e]
  exact Nc.made_right n i _ h3
 r0 := Lc.hub_right n s.h0 h3 h8
 r1 := Lc.hub_right n s.h1 h3 h8
theorem all1_calls (n : Nat) (s : Sc) (w : World) (h3 : 3 ≤ n) (h8 : n ≤ 8) (hn : s.n = n) (hld : s.ld = true) (hp : Nodes w s.na s.nn s.nodes) (hl : Chs w s.ta s.tn s.ticks) (hm : s.tn ≤ 1000000) :
  Calls Tryz.prog 13 #[.agg s.cells.toArray] w fun e w' => ∃ p G A cap ads, e = .returned (.tuple #[.slice A s.tn cap, .agg (now (start1 n s p G) s.ticks ads).cells.toArray, .int .i64 0]) ∧ ads.length = s.tn ∧ Looks w' A s.tn (lks (start1 n s p G) s.ticks ads) ∧ Away w.heap.size A (lks (start1 n s p G) s.ticks ads) ∧ (now (start1 n s p G) s.ticks ads).There w' ∧ Below w.heap.size w w' := by
 refine (all_of s (fun x => ∃ p G, x = start1 n s p G) w hl hm ?_).mono ?_
 ·intro W hW
  have h1 := Nw.new1_calls n s W h3 h8 hn hld (hp.below hW)
  rw [hn, hld]
  refine h1.mono ?_
  rintro e w' ⟨p, G, rfl, ht, hp1, hG1, hb⟩
  refine ⟨start1 n s p G, ⟨p, G, rfl⟩, start1_right n s p G h3 h8, ?_, ht, ?_, ?_, hb⟩
  ·rfl
  ·intro b o e
   injection e with e
   injection e with e1 _ _
   omega
  ·intro b o e
   injection e with e
   injection e with e1 _ _
   omega
 ·rintro e w' ⟨x, A, cap, ads, ⟨p, G, rfl⟩, _, rfl, hn, hlk, haw, ht, hb⟩
  exact ⟨p, G, A, cap, ads, rfl, hn, hlk, haw, ht, hb⟩
theorem allr_calls (n : Nat) (s : Sc) (w : World) (h3 : 3 ≤ n) (h8 : n ≤ 8) (hn : s.n = n) (hs : Op.ScThere w s) (hm : s.tn ≤ 1000000) :
  Calls Tryz.prog 13 #[.agg s.cells.toArray] w fun e w' => ∃ (x : Wd) (A : Option Addr) (cap : Nat) (ads : List (Nat × Nat)), e = .returned (.tuple #[.slice A s.tn cap, .agg (now x s.ticks ads).cells.toArray, .int .i64 0]) ∧ x.Right ∧ x.n = n ∧ ads.length = s.tn ∧ Looks w' A s.tn (lks x s.ticks ads) ∧ (now x s.ticks ads).There w' ∧ Below w.heap.size w w' := by
 cases hld : s.ld with
 | false =>
  refine (all0_calls n s w h3 h8 hn hld hs.power hs.ticks hm).mono ?_
  rintro e w' ⟨p, G, A, cap, ads, rfl, hlen, hlk, _, hty, hb⟩
  exact ⟨_, A, cap, ads, rfl, start_right n s p G h3 h8, rfl, hlen, hlk, hty, hb⟩
 | true =>
  refine (all1_calls n s w h3 h8 hn hld hs.nodes hs.ticks hm).mono ?_
  rintro e w' ⟨p, G, A, cap, ads, rfl, hlen, hlk, _, hty, hb⟩
  exact ⟨_, A, cap, ads, rfl, start1_right n s p G h3 h8, rfl, hlen, hlk, hty, hb⟩
end Sw
end Go.Proofs.YtgiojagdmglinaaGreatDoor
namespace Go.Proofs.YtgiojagdmglinaaGreatDoor
open Go Go.RowKit
namespace Heq
variable (a0 a1 a2 a3 a4 a5 a6 a7 : Int)
theorem cells3 : Tryz.prog.cellsOf 3 = 1 := by kernel_rfl
theorem infoI : (Tryz.prog.info? 3).isSome = true := by kernel_rfl
theorem plainI : Tryz.prog.plainKey 3 = true := by kernel_rfl
theorem ages_eq (W : World) : (Op.equalIn 9999 26 (.agg #[.int .i64 a0, .int .i64 a1, .int .i64 a2, .int .i64 a3, .int .i64 a4, .int .i64 a5, .int .i64 a6, .int .i64 a7]) (.agg #[.int .i64 a0, .int .i64 a1, .int .i64 a2, .int .i64 a3, .int .i64 a4, .int .i64 a5, .int .i64 a6, .int .i64 a7])).run Tryz.prog W = .ok true W := by
 obtain ⟨i, hi⟩ := Option.isSome_iff_exists.1 infoI
 have h := run_equalIn_array (P := Tryz.prog) W 9998 (t := 26) (e := 3) (n := 8) #[.int .i64 a0, .int .i64 a1, .int .i64 a2, .int .i64 a3, .int .i64 a4, .int .i64 a5, .int .i64 a6, .int .i64 a7] #[.int .i64 a0, .int .i64 a1, .int .i64 a2, .int .i64 a3, .int .i64 a4, .int .i64 a5, .int .i64 a6, .int .i64 a7] Tryz.underlying26 hi
 have hr : List.range 8 = [0, 1, 2, 3, 4, 5, 6, 7] := rfl
 rw [h, cells3, hr]
 have p0 := run_part_plain (P := Tryz.prog) W plainI (xs := #[.int .i64 a0, .int .i64 a1, .int .i64 a2, .int .i64 a3, .int .i64 a4, .int .i64 a5, .int .i64 a6, .int .i64 a7]) (off := 0 * 1) (v := .int .i64 a0) rfl
 have p1 := run_part_plain (P := Tryz.prog) W plainI (xs := #[.int .i64 a0, .int .i64 a1, .int .i64 a2, .int .i64 a3, .int .i64 a4, .int .i64 a5, .int .i64 a6, .int .i64 a7]) (off := 1 * 1) (v := .int .i64 a1) rfl
 have p2 := run_part_plain (P := Tryz.prog) W plainI (xs := #[.int .i64 a0, .int .i64 a1, .int .i64 a2, .int .i64 a3, .int .i64 a4, .int .i64 a5, .int .i64 a6, .int .i64 a7]) (off := 2 * 1) (v := .int .i64 a2) rfl
 have p3 := run_part_plain (P := Tryz.prog) W plainI (xs := #[.int .i64 a0, .int .i64 a1, .int .i64 a2, .int .i64 a3, .int .i64 a4, .int .i64 a5, .int .i64 a6, .int .i64 a7]) (off := 3 * 1) (v := .int .i64 a3) rfl
 have p4 := run_part_plain (P := Tryz.prog) W plainI (xs := #[.int .i64 a0, .int .i64 a1, .int .i64 a2, .int .i64 a3, .int .i64 a4, .int .i64 a5, .int .i64 a6, .int .i64 a7]) (off := 4 * 1) (v := .int .i64 a4) rfl
 have p5 := run_part_plain (P := Tryz.prog) W plainI (xs := #[.int .i64 a0, .int .i64 a1, .int .i64 a2, .int .i64 a3, .int .i64 a4, .int .i64 a5, .int .i64 a6, .int .i64 a7]) (off := 5 * 1) (v := .int .i64 a5) rfl
 have p6 := run_part_plain (P := Tryz.prog) W plainI (xs := #[.int .i64 a0, .int .i64 a1, .int .i64 a2, .int .i64 a3, .int .i64 a4, .int .i64 a5, .int .i64 a6, .int .i64 a7]) (off := 6 * 1) (v := .int .i64 a6) rfl
 have p7 := run_part_plain (P := Tryz.prog) W plainI (xs := #[.int .i64 a0, .int .i64 a1, .int .i64 a2, .int .i64 a3, .int .i64 a4, .int .i64 a5, .int .i64 a6, .int .i64 a7]) (off := 7 * 1) (v := .int .i64 a7) rfl
 have q : ∀ z : Int, (Op.equalIn 9998 3 (.int .i64 z) (.int .i64 z)).run Tryz.prog W = .ok true W := fun z => by
  have := run_equalIn_int (P := Tryz.prog) W 9997 3 .i64 .i64 z z Tryz.underlying3
  rw [this]
  simp
 simp only [Op.eqItems, Sem.run_bind, p0, p1, p2, p3, p4, p5, p6, p7, q, Result.andThen_ok, Bool.not_true, Bool.false_eq_true, if_false, Sem.run_pure]
end Heq
end Go.Proofs.YtgiojagdmglinaaGreatDoor
