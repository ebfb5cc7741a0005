/-
  Part 27 of a merged text.
-/
import Derived.Test.YtgiojagdmglinaaGreatDoorGb26
import Derived.Test.YtgiojagdmglinaaGreatDoorGb04
set_option linter.unusedVariables false
set_option linter.unusedSimpArgs false
set_option maxRecDepth 100000
namespace Go.Proofs.YtgiojagdmglinaaGreatDoor
open Go.RowKit Vote
theorem Whole.row {w : World} {p n : Nat} {l : List Int} (h : Kit.Row w p (ints l)) (hl : l.length = n) : Whole w (some ⟨p, 0, none⟩) n l := by
 refine ⟨by simpa using hl, fun _ => ⟨p, 0, rfl, h.lt, fun j c hj i v hv => ?_⟩⟩
 rw [List.getElem?_map] at hj
 obtain ⟨s, hs, rfl⟩ := Option.map_eq_some_iff.1 hj
 have hi : i = 0 := by
  have := (List.getElem?_eq_some_iff.1 hv).1
  simpa using this
 subst hi
 simp at hv
 subst hv
 have e : (0 + j * 1 + 0) = j := by omega
 rw [e]
 exact h.at_ j _ (by unfold ints; rw [List.getElem?_map, hs]; rfl)
theorem Nodes.row_of {w : World} {p n : Nat} {q : List Nd} (h : Kit.Row w p (Cl.cells q)) (hq : q.length = n) : Nodes w (some ⟨p, 0, none⟩) n q where
 len := by simpa using hq
 at_ := fun hn => by
  refine ⟨p, 0, rfl, h.lt, fun j c hj i v hi => ?_⟩
  obtain ⟨y, hy, rfl⟩ : ∃ y, q[j]? = some y ∧ y.cells = c := by
   rw [List.getElem?_map] at hj
   obtain ⟨y, hy, e⟩ := Option.map_eq_some_iff.1 hj
   exact ⟨y, hy, e⟩
  have hk : ∀ c ∈ q.map Nd.cells, c.length = 4 := by
   intro c hc
   obtain ⟨x, _, rfl⟩ := List.mem_map.1 hc
   rfl
  have := flat_get 4 _ hk j y.cells (by rw [List.getElem?_map, hy]; rfl) i v hi
  rw [Nat.zero_add]
  exact h.at_ _ _ this
namespace Nw
theorem sizeScript : (Tryz.prog.info? 32).map (·.size) = some 31 := by kernel_rfl
theorem mk_nodes (n : Nat) (h8 : n ≤ 8) (W : World) : (Instr.makeSlice 25 (.int .i64 (n : Int)) (.int .i64 (n : Int))).run Tryz.prog W = .ok (.slice (some ⟨W.heap.size, 0, none⟩) n n) (W.alloc (.cells (madeCells #[Value.int .i64 0, .int .i64 0, .int .i64 0, .int .i64 0] (n * 4)) 60)) := by
 obtain ⟨i0, hi, hz0, hz1, hz2⟩ := info_parts Cl.info
 have hr := run_make (P := Tryz.prog) W 25 60 i0 _ Tryz.underlying25 hi hz0 .i64 .i64 n n (by omega) (Int.le_refl _) (by rw [hz2]; omega) (by omega)
 simp only [Int.toNat_natCast, hz1] at hr
 exact hr
theorem made_nodes (n : Nat) : (madeCells #[Value.int .i64 0, .int .i64 0, .int .i64 0, .int .i64 0] (n * 4)).toList = Cl.cells (List.replicate n Nd.zero) := by
 apply List.ext_getElem?; intro j
 by_cases hj : j < n * 4
 ·obtain ⟨d0, d1, d2, d3⟩ := Cl.cells_get (List.replicate n Nd.zero) (j / 4) Nd.zero (by rw [List.getElem?_replicate, if_pos (by omega)])
  have hm : j % 4 = 0 ∨ j % 4 = 1 ∨ j % 4 = 2 ∨ j % 4 = 3 := by omega
  have hg : (madeCells #[Value.int .i64 0, .int .i64 0, .int .i64 0, .int .i64 0] (n * 4)).toList[j]? = some (#[Value.int .i64 0, .int .i64 0, .int .i64 0, .int .i64 0][j % 4]!) := by
   simp [madeCells, hj]
  rw [hg]
  rcases hm with e | e | e | e <;> rw [e]
  ·rw [show j = j / 4 * 4 by omega, d0]; rfl
  ·rw [show j = j / 4 * 4 + 1 by omega, d1]; rfl
  ·rw [show j = j / 4 * 4 + 2 by omega, d2]; rfl
  ·rw [show j = j / 4 * 4 + 3 by omega, d3]; rfl
 ·rw [List.getElem?_eq_none (by simp [madeCells]; omega), List.getElem?_eq_none (by rw [Cl.cells_len]; simp; omega)]
set_option maxHeartbeats 1500000 in
theorem new0_calls (n : Nat) (s : Sc) (w : World) (h3 : 3 ≤ n) (h8 : n ≤ 8) (hn : s.n = n) (hld : s.ld = false) (hp : Whole w s.pa s.pn s.power) :
  Calls Tryz.prog 12 #[.agg #[.int .i64 n, .slice s.pa s.pn s.pc, .int .i64 s.c, .int .i64 s.v, .bool false, .slice s.na s.nn s.nc, .int .i64 (s.h0.ag 0), .int .i64 (s.h0.ag 1), .int .i64 (s.h0.ag 2), .int .i64 (s.h0.ag 3), .int .i64 (s.h0.ag 4), .int .i64 (s.h0.ag 5), .int .i64 (s.h0.ag 6), .int .i64 (s.h0.ag 7), .int .i64 s.h0.port, .int .i64 s.h0.age, .int .i64 s.h0.hold, .int .i64 s.h0.pos, .int .i64 (s.h1.ag 0), .int .i64 (s.h1.ag 1), .int .i64 (s.h1.ag 2), .int .i64 (s.h1.ag 3), .int .i64 (s.h1.ag 4), .int .i64 (s.h1.ag 5), .int .i64 (s.h1.ag 6), .int .i64 (s.h1.ag 7), .int .i64 s.h1.port, .int .i64 s.h1.age, .int .i64 s.h1.hold, .int .i64 s.h1.pos, .slice s.ta s.tn s.tc]] w
   fun e w' => ∃ p G, e = .returned (.tuple #[.agg (({ n := n, tick := 0, c := if Flt.may n s.c s.v then s.c else 0, v := if Flt.may n s.c s.v then s.v else 0, pa := some ⟨p, 0, none⟩, pc := n, power := Pc.clean n s.power, na := some ⟨G, 0, none⟩, nc := n, nodes := (List.range n).map off, h0 := Wm.fresh n, h1 := Wm.fresh n } : Wd)).cells.toArray, .int .i64 0]) ∧ (({ n := n, tick := 0, c := if Flt.may n s.c s.v then s.c else 0, v := if Flt.may n s.c s.v then s.v else 0, pa := some ⟨p, 0, none⟩, pc := n, power := Pc.clean n s.power, na := some ⟨G, 0, none⟩, nc := n, nodes := (List.range n).map off, h0 := Wm.fresh n, h1 := Wm.fresh n } : Wd)).There w' ∧ w.heap.size ≤ p ∧ w.heap.size ≤ G ∧ Below w.heap.size w w' := by
 have kr := fun W => Cf.right_calls (n : Int) W (by omega) (by omega)
 have kc := fun W => Flt.clean_calls (n : Int) s.c s.v W (by omega) (by omega)
 have kl := fun base D G c v W (hD : base ≤ D) (hG : base ≤ G) (hne : D ≠ G) hDw hGw (hW : ∀ W2, Below base W W2 → Whole W2 s.pa s.pn s.power) => fresh_calls base D G n c v s W h3 h8 hD hG hne hDw hGw hW
 rw [hn, hld] at kl
 generalize (if Flt.may n s.c s.v then s.c else 0) = fc at kc ⊢
 generalize (if Flt.may n s.c s.v then s.v else 0) = fv at kc ⊢
 have KR := Lib.hid kr
 have KC := Lib.hid kc
 have KL := Lib.hid kl
 have HP := Lib.hid hp
 clear kr kc kl hn hld hp
 have hmk := fun W => mk_nodes n h8 W
 go_enter Tryz.func12, Tryz.ntmps12
 go_upto_region 1 with fail
 have q0 : Kit.Row ((w.alloc (.cells #[.int .i64 n, .slice s.pa s.pn s.pc, .int .i64 s.c, .int .i64 s.v, .bool false, .slice s.na s.nn s.nc, .int .i64 (s.h0.ag 0), .int .i64 (s.h0.ag 1), .int .i64 (s.h0.ag 2), .int .i64 (s.h0.ag 3), .int .i64 (s.h0.ag 4), .int .i64 (s.h0.ag 5), .int .i64 (s.h0.ag 6), .int .i64 (s.h0.ag 7), .int .i64 s.h0.port, .int .i64 s.h0.age, .int .i64 s.h0.hold, .int .i64 s.h0.pos, .int .i64 (s.h1.ag 0), .int .i64 (s.h1.ag 1), .int .i64 (s.h1.ag 2), .int .i64 (s.h1.ag 3), .int .i64 (s.h1.ag 4), .int .i64 (s.h1.ag 5), .int .i64 (s.h1.ag 6), .int .i64 (s.h1.ag 7), .int .i64 s.h1.port, .int .i64 s.h1.age, .int .i64 s.h1.hold, .int .i64 s.h1.pos, .slice s.ta s.tn s.tc] 32)).alloc (.cells #[.int .i64 0, .int .i64 0, .int .i64 0, .int .i64 0, .slice none 0 0, .slice none 0 0, .int .i64 0, .int .i64 0, .int .i64 0, .int .i64 0, .int .i64 0, .int .i64 0, .int .i64 0, .int .i64 0, .int .i64 0, .int .i64 0, .int .i64 0, .int .i64 0, .int .i64 0, .int .i64 0, .int .i64 0, .int .i64 0, .int .i64 0, .int .i64 0, .int .i64 0, .int .i64 0, .int .i64 0, .int .i64 0, .int .i64 0, .int .i64 0] 36)) (w.heap.size) [.int .i64 n, .slice s.pa s.pn s.pc, .int .i64 s.c, .int .i64 s.v, .bool false, .slice s.na s.nn s.nc, .int .i64 (s.h0.ag 0), .int .i64 (s.h0.ag 1), .int .i64 (s.h0.ag 2), .int .i64 (s.h0.ag 3), .int .i64 (s.h0.ag 4), .int .i64 (s.h0.ag 5), .int .i64 (s.h0.ag 6), .int .i64 (s.h0.ag 7), .int .i64 s.h0.port, .int .i64 s.h0.age, .int .i64 s.h0.hold, .int .i64 s.h0.pos, .int .i64 (s.h1.ag 0), .int .i64 (s.h1.ag 1), .int .i64 (s.h1.ag 2), .int .i64 (s.h1.ag 3), .int .i64 (s.h1.ag 4), .int .i64 (s.h1.ag 5), .int .i64 (s.h1.ag 6), .int .i64 (s.h1.ag 7), .int .i64 s.h1.port, .int .i64 s.h1.age, .int .i64 s.h1.hold, .int .i64 s.h1.pos, .slice s.ta s.tn s.tc] := ((Kit.Row.new w _ _).alloc _)
 have q1 : Kit.Row ((w.alloc (.cells #[.int .i64 n, .slice s.pa s.pn s.pc, .int .i64 s.c, .int .i64 s.v, .bool false, .slice s.na s.nn s.nc, .int .i64 (s.h0.ag 0), .int .i64 (s.h0.ag 1), .int .i64 (s.h0.ag 2), .int .i64 (s.h0.ag 3), .int .i64 (s.h0.ag 4), .int .i64 (s.h0.ag 5), .int .i64 (s.h0.ag 6), .int .i64 (s.h0.ag 7), .int .i64 s.h0.port, .int .i64 s.h0.age, .int .i64 s.h0.hold, .int .i64 s.h0.pos, .int .i64 (s.h1.ag 0), .int .i64 (s.h1.ag 1), .int .i64 (s.h1.ag 2), .int .i64 (s.h1.ag 3), .int .i64 (s.h1.ag 4), .int .i64 (s.h1.ag 5), .int .i64 (s.h1.ag 6), .int .i64 (s.h1.ag 7), .int .i64 s.h1.port, .int .i64 s.h1.age, .int .i64 s.h1.hold, .int .i64 s.h1.pos, .slice s.ta s.tn s.tc] 32)).alloc (.cells #[.int .i64 0, .int .i64 0, .int .i64 0, .int .i64 0, .slice none 0 0, .slice none 0 0, .int .i64 0, .int .i64 0, .int .i64 0, .int .i64 0, .int .i64 0, .int .i64 0, .int .i64 0, .int .i64 0, .int .i64 0, .int .i64 0, .int .i64 0, .int .i64 0, .int .i64 0, .int .i64 0, .int .i64 0, .int .i64 0, .int .i64 0, .int .i64 0, .int .i64 0, .int .i64 0, .int .i64 0, .int .i64 0, .int .i64 0, .int .i64 0] 36)) (w.heap.size + 1) [.int .i64 0, .int .i64 0, .int .i64 0, .int .i64 0, .slice none 0 0, .slice none 0 0, .int .i64 0, .int .i64 0, .int .i64 0, .int .i64 0, .int .i64 0, .int .i64 0, .int .i64 0, .int .i64 0, .int .i64 0, .int .i64 0, .int .i64 0, .int .i64 0, .int .i64 0, .int .i64 0, .int .i64 0, .int .i64 0, .int .i64 0, .int .i64 0, .int .i64 0, .int .i64 0, .int .i64 0, .int .i64 0, .int .i64 0, .int .i64 0] := (Kit.Row.newAt _ _ _ _ (by simp))
 have qb : Below w.heap.size w ((w.alloc (.cells #[.int .i64 n, .slice s.pa s.pn s.pc, .int .i64 s.c, .int .i64 s.v, .bool false, .slice s.na s.nn s.nc, .int .i64 (s.h0.ag 0), .int .i64 (s.h0.ag 1), .int .i64 (s.h0.ag 2), .int .i64 (s.h0.ag 3), .int .i64 (s.h0.ag 4), .int .i64 (s.h0.ag 5), .int .i64 (s.h0.ag 6), .int .i64 (s.h0.ag 7), .int .i64 s.h0.port, .int .i64 s.h0.age, .int .i64 s.h0.hold, .int .i64 s.h0.pos, .int .i64 (s.h1.ag 0), .int .i64 (s.h1.ag 1), .int .i64 (s.h1.ag 2), .int .i64 (s.h1.ag 3), .int .i64 (s.h1.ag 4), .int .i64 (s.h1.ag 5), .int .i64 (s.h1.ag 6), .int .i64 (s.h1.ag 7), .int .i64 s.h1.port, .int .i64 s.h1.age, .int .i64 s.h1.hold, .int .i64 s.h1.pos, .slice s.ta s.tn s.tc] 32)).alloc (.cells #[.int .i64 0, .int .i64 0, .int .i64 0, .int .i64 0, .slice none 0 0, .slice none 0 0, .int .i64 0, .int .i64 0, .int .i64 0, .int .i64 0, .int .i64 0, .int .i64 0, .int .i64 0, .int .i64 0, .int .i64 0, .int .i64 0, .int .i64 0, .int .i64 0, .int .i64 0, .int .i64 0, .int .i64 0, .int .i64 0, .int .i64 0, .int .i64 0, .int .i64 0, .int .i64 0, .int .i64 0, .int .i64 0, .int .i64 0, .int .i64 0] 36)) := (((Below.refl _ _).alloc (Nat.le_refl _) _).alloc (by simp) _)
 have qs : (((w.alloc (.cells #[.int .i64 n, .slice s.pa s.pn s.pc, .int .i64 s.c, .int .i64 s.v, .bool false, .slice s.na s.nn s.nc, .int .i64 (s.h0.ag 0), .int .i64 (s.h0.ag 1), .int .i64 (s.h0.ag 2), .int .i64 (s.h0.ag 3), .int .i64 (s.h0.ag 4), .int .i64 (s.h0.ag 5), .int .i64 (s.h0.ag 6), .int .i64 (s.h0.ag 7), .int .i64 s.h0.port, .int .i64 s.h0.age, .int .i64 s.h0.hold, .int .i64 s.h0.pos, .int .i64 (s.h1.ag 0), .int .i64 (s.h1.ag 1), .int .i64 (s.h1.ag 2), .int .i64 (s.h1.ag 3), .int .i64 (s.h1.ag 4), .int .i64 (s.h1.ag 5), .int .i64 (s.h1.ag 6), .int .i64 (s.h1.ag 7), .int .i64 s.h1.port, .int .i64 s.h1.age, .int .i64 s.h1.hold, .int .i64 s.h1.pos, .slice s.ta s.tn s.tc] 32)).alloc (.cells #[.int .i64 0, .int .i64 0, .int .i64 0, .int .i64 0, .slice none 0 0, .slice none 0 0, .int .i64 0, .int .i64 0, .int .i64 0, .int .i64 0, .int .i64 0, .int .i64 0, .int .i64 0, .int .i64 0, .int .i64 0, .int .i64 0, .int .i64 0, .int .i64 0, .int .i64 0, .int .i64 0, .int .i64 0, .int .i64 0, .int .i64 0, .int .i64 0, .int .i64 0, .int .i64 0, .int .i64 0, .int .i64 0, .int .i64 0, .int .i64 0] 36))).heap.size = w.heap.size + 1 + 1 := by simp only [World.size_alloc]
 generalize ((w.alloc (.cells #[.int .i64 n, .slice s.pa s.pn s.pc, .int .i64 s.c, .int .i64 s.v, .bool false, .slice s.na s.nn s.nc, .int .i64 (s.h0.ag 0), .int .i64 (s.h0.ag 1), .int .i64 (s.h0.ag 2), .int .i64 (s.h0.ag 3), .int .i64 (s.h0.ag 4), .int .i64 (s.h0.ag 5), .int .i64 (s.h0.ag 6), .int .i64 (s.h0.ag 7), .int .i64 s.h0.port, .int .i64 s.h0.age, .int .i64 s.h0.hold, .int .i64 s.h0.pos, .int .i64 (s.h1.ag 0), .int .i64 (s.h1.ag 1), .int .i64 (s.h1.ag 2), .int .i64 (s.h1.ag 3), .int .i64 (s.h1.ag 4), .int .i64 (s.h1.ag 5), .int .i64 (s.h1.ag 6), .int .i64 (s.h1.ag 7), .int .i64 s.h1.port, .int .i64 s.h1.age, .int .i64 s.h1.hold, .int .i64 s.h1.pos, .slice s.ta s.tn s.tc] 32)).alloc (.cells #[.int .i64 0, .int .i64 0, .int .i64 0, .int .i64 0, .slice none 0 0, .slice none 0 0, .int .i64 0, .int .i64 0, .int .i64 0, .int .i64 0, .int .i64 0, .int .i64 0, .int .i64 0, .int .i64 0, .int .i64 0, .int .i64 0, .int .i64 0, .int .i64 0, .int .i64 0, .int .i64 0, .int .i64 0, .int .i64 0, .int .i64 0, .int .i64 0, .int .i64 0, .int .i64 0, .int .i64 0, .int .i64 0, .int .i64 0, .int .i64 0] 36)) = w2 at *
 have R0 := Lib.hid q0
 have R1 := Lib.hid q1
 have HB := Lib.hid qb
 have c0 := q0.at_ 0 (.int .i64 n) rfl
 clear q0 q1 qb
 go_wp2_with fail
 refine (KR.out _).mono ?_
 rintro e w3 ⟨rfl, rfl⟩
 go_wp2_with fail
 refine wp_region_held_drew (S := (fun w' => w'.cell? ⟨w.heap.size, 0, none⟩ = some (.int .i64 n))) (by kernel_rfl) ?_ (fun hHeld => ?_)
 ·go_keep
 refine Rgn.tk 0 rfl ?_
 try simp only [Act.put, Rgn.a, Rgn.b, Rgn.c]
 refine Rgn.tk 1 rfl ?_
 try simp only [Act.put, Rgn.a, Rgn.b, Rgn.c]
 refine Rgn.tk 2 rfl ?_
 try simp only [Act.put, Rgn.a, Rgn.b, Rgn.c]
 refine Rgn.tk 3 rfl ?_
 try simp only [Act.put, Rgn.a, Rgn.b, Rgn.c]
 refine Rgn.one 4 rfl (by kernel_rfl) (fun K hK => ?_)
 go_simp
 refine hK.out _ _ ?_ (fun hHeld => ?_)
 ·go_keep
 clear hK K
 try simp only [Act.put, Rgn.a, Rgn.b, Rgn.c]
 refine Rgn.tk 5 rfl ?_
 try simp only [Act.put, Rgn.a, Rgn.b, Rgn.c]
 refine Rgn.one 6 rfl (by kernel_rfl) (fun K hK => ?_)
 go_simp
 refine hK.out _ _ ?_ (fun hHeld => ?_)
 ·go_keep
 clear hK K
 try simp only [Act.put, Rgn.a, Rgn.b, Rgn.c]
 refine Rgn.tk 7 rfl ?_
 try simp only [Act.put, Rgn.a, Rgn.b, Rgn.c]
 refine wpAnyH_done (by kernel_rfl) ?_ _
 have RG := Lib.hid (((Kit.Row.newAt w2 (madeCells #[Value.int .i64 0, .int .i64 0, .int .i64 0, .int .i64 0] (n * 4)) 60 (w.heap.size + 1 + 1) qs).cast (made_nodes n)).alloc (.cells #[.int .i64 n, .int .i64 0, .int .i64 0, .int .i64 0, .slice none 0 0, .slice (some ⟨w.heap.size + 1 + 1, 0, none⟩) n n, .int .i64 0, .int .i64 0, .int .i64 0, .int .i64 0, .int .i64 0, .int .i64 0, .int .i64 0, .int .i64 0, .int .i64 0, .int .i64 0, .int .i64 0, .int .i64 0, .int .i64 0, .int .i64 0, .int .i64 0, .int .i64 0, .int .i64 0, .int .i64 0, .int .i64 0, .int .i64 0, .int .i64 0, .int .i64 0, .int .i64 0, .int .i64 0] 36)).drew
 have RD := Lib.hid (Kit.Row.newAt (w2.alloc (.cells (madeCells #[Value.int .i64 0, .int .i64 0, .int .i64 0, .int .i64 0] (n * 4)) 60)) #[.int .i64 n, .int .i64 0, .int .i64 0, .int .i64 0, .slice none 0 0, .slice (some ⟨w.heap.size + 1 + 1, 0, none⟩) n n, .int .i64 0, .int .i64 0, .int .i64 0, .int .i64 0, .int .i64 0, .int .i64 0, .int .i64 0, .int .i64 0, .int .i64 0, .int .i64 0, .int .i64 0, .int .i64 0, .int .i64 0, .int .i64 0, .int .i64 0, .int .i64 0, .int .i64 0, .int .i64 0, .int .i64 0, .int .i64 0, .int .i64 0, .int .i64 0, .int .i64 0, .int .i64 0] 36 (w.heap.size + 1 + 1 + 1) (by rw [World.size_alloc, qs])).drew
 replace R0 := Lib.hid ((R0.out.alloc (.cells (madeCells #[Value.int .i64 0, .int .i64 0, .int .i64 0, .int .i64 0] (n * 4)) 60)).alloc (.cells #[.int .i64 n, .int .i64 0, .int .i64 0, .int .i64 0, .slice none 0 0, .slice (some ⟨w.heap.size + 1 + 1, 0, none⟩) n n, .int .i64 0, .int .i64 0, .int .i64 0, .int .i64 0, .int .i64 0, .int .i64 0, .int .i64 0, .int .i64 0, .int .i64 0, .int .i64 0, .int .i64 0, .int .i64 0, .int .i64 0, .int .i64 0, .int .i64 0, .int .i64 0, .int .i64 0, .int .i64 0, .int .i64 0, .int .i64 0, .int .i64 0, .int .i64 0, .int .i64 0, .int .i64 0] 36)).drew
 replace R1 := Lib.hid ((R1.out.alloc (.cells (madeCells #[Value.int .i64 0, .int .i64 0, .int .i64 0, .int .i64 0] (n * 4)) 60)).alloc (.cells #[.int .i64 n, .int .i64 0, .int .i64 0, .int .i64 0, .slice none 0 0, .slice (some ⟨w.heap.size + 1 + 1, 0, none⟩) n n, .int .i64 0, .int .i64 0, .int .i64 0, .int .i64 0, .int .i64 0, .int .i64 0, .int .i64 0, .int .i64 0, .int .i64 0, .int .i64 0, .int .i64 0, .int .i64 0, .int .i64 0, .int .i64 0, .int .i64 0, .int .i64 0, .int .i64 0, .int .i64 0, .int .i64 0, .int .i64 0, .int .i64 0, .int .i64 0, .int .i64 0, .int .i64 0] 36)).drew
 replace HB := Lib.hid ((HB.out.alloc (by omega) (.cells (madeCells #[Value.int .i64 0, .int .i64 0, .int .i64 0, .int .i64 0] (n * 4)) 60)).alloc (by rw [World.size_alloc]; omega) (.cells #[.int .i64 n, .int .i64 0, .int .i64 0, .int .i64 0, .slice none 0 0, .slice (some ⟨w.heap.size + 1 + 1, 0, none⟩) n n, .int .i64 0, .int .i64 0, .int .i64 0, .int .i64 0, .int .i64 0, .int .i64 0, .int .i64 0, .int .i64 0, .int .i64 0, .int .i64 0, .int .i64 0, .int .i64 0, .int .i64 0, .int .i64 0, .int .i64 0, .int .i64 0, .int .i64 0, .int .i64 0, .int .i64 0, .int .i64 0, .int .i64 0, .int .i64 0, .int .i64 0, .int .i64 0] 36)).drew
 clear hHeld c0 hmk
 generalize ((w2.alloc (.cells (madeCells #[Value.int .i64 0, .int .i64 0, .int .i64 0, .int .i64 0] (n * 4)) 60)).alloc (.cells #[.int .i64 n, .int .i64 0, .int .i64 0, .int .i64 0, .slice none 0 0, .slice (some ⟨w.heap.size + 1 + 1, 0, none⟩) n n, .int .i64 0, .int .i64 0, .int .i64 0, .int .i64 0, .int .i64 0, .int .i64 0, .int .i64 0, .int .i64 0, .int .i64 0, .int .i64 0, .int .i64 0, .int .i64 0, .int .i64 0, .int .i64 0, .int .i64 0, .int .i64 0, .int .i64 0, .int .i64 0, .int .i64 0, .int .i64 0, .int .i64 0, .int .i64 0, .int .i64 0, .int .i64 0] 36)).drew = w4 at *
 have c0 := R0.out.at_ 0 (.int .i64 n) rfl
 have c2 := R0.out.at_ 2 (.int .i64 s.c) rfl
 have c3 := R0.out.at_ 3 (.int .i64 s.v) rfl
 go_wp2_with fail
 refine (KC.out _).mono ?_
 rintro e w5 ⟨rfl, b5⟩
 replace RG := Lib.hid (RG.out.below b5)
 replace RD := Lib.hid (RD.out.below b5)
 replace R0 := Lib.hid (R0.out.below b5)
 replace R1 := Lib.hid (R1.out.below b5)
 replace HB := Lib.hid (HB.out.trans (b5.mono HB.out.size))
 clear b5 c0 c2 c3
 have d2 := RD.out.at_ 2 (.int .i64 0) rfl
 have d3 := RD.out.at_ 3 (.int .i64 0) rfl
 have z2 := RD.out.free 2 (by simp)
 have z3 := RD.out.free 3 (by simp)
 have k4 := R0.out.at_ 4 (.bool false) rfl
 dsimp only
 go_upto_region 8 with fail
 replace RD : Hid (Kit.Row _ (w.heap.size + 1 + 1 + 1) [.int .i64 n, .int .i64 0, .int .i64 fc, .int .i64 fv, .slice none 0 0, .slice (some ⟨w.heap.size + 1 + 1, 0, none⟩) n n, .int .i64 0, .int .i64 0, .int .i64 0, .int .i64 0, .int .i64 0, .int .i64 0, .int .i64 0, .int .i64 0, .int .i64 0, .int .i64 0, .int .i64 0, .int .i64 0, .int .i64 0, .int .i64 0, .int .i64 0, .int .i64 0, .int .i64 0, .int .i64 0, .int .i64 0, .int .i64 0, .int .i64 0, .int .i64 0, .int .i64 0, .int .i64 0]) := Lib.hid (((RD.out.set 2 (.int .i64 fc) (by simp)).set 3 (.int .i64 fv) (by simp)).cast rfl)
 replace RG := Lib.hid ((RG.out.far (w.heap.size + 1 + 1 + 1) 2 (.int .i64 fc) (by omega)).far (w.heap.size + 1 + 1 + 1) 3 (.int .i64 fv) (by omega))
 replace R0 := Lib.hid ((R0.out.far (w.heap.size + 1 + 1 + 1) 2 (.int .i64 fc) (by omega)).far (w.heap.size + 1 + 1 + 1) 3 (.int .i64 fv) (by omega))
 replace R1 := Lib.hid ((R1.out.far (w.heap.size + 1 + 1 + 1) 2 (.int .i64 fc) (by omega)).far (w.heap.size + 1 + 1 + 1) 3 (.int .i64 fv) (by omega))
 replace HB := Lib.hid ((HB.out.setCell (p := ⟨w.heap.size + 1 + 1 + 1, 2, none⟩) (show w.heap.size ≤ w.heap.size + 1 + 1 + 1 by omega) (.int .i64 fc)).setCell (p := ⟨w.heap.size + 1 + 1 + 1, 3, none⟩) (show w.heap.size ≤ w.heap.size + 1 + 1 + 1 by omega) (.int .i64 fv))
 clear d2 d3 z2 z3 k4
 generalize (w5.setCell ⟨w.heap.size + 1 + 1 + 1, 2, none⟩ (.int .i64 fc)).setCell ⟨w.heap.size + 1 + 1 + 1, 3, none⟩ (.int .i64 fv) = w6 at *
 iterate 4 (first | go_guarded | go_step | go_upon | go_back)
 refine Kit.wpList_load_row rfl 32 (.tmp 1) rfl w.heap.size 0 rfl R0.out [.int .i64 n, .slice s.pa s.pn s.pc, .int .i64 s.c, .int .i64 s.v, .bool false, .slice s.na s.nn s.nc, .int .i64 (s.h0.ag 0), .int .i64 (s.h0.ag 1), .int .i64 (s.h0.ag 2), .int .i64 (s.h0.ag 3), .int .i64 (s.h0.ag 4), .int .i64 (s.h0.ag 5), .int .i64 (s.h0.ag 6), .int .i64 (s.h0.ag 7), .int .i64 s.h0.port, .int .i64 s.h0.age, .int .i64 s.h0.hold, .int .i64 s.h0.pos, .int .i64 (s.h1.ag 0), .int .i64 (s.h1.ag 1), .int .i64 (s.h1.ag 2), .int .i64 (s.h1.ag 3), .int .i64 (s.h1.ag 4), .int .i64 (s.h1.ag 5), .int .i64 (s.h1.ag 6), .int .i64 (s.h1.ag 7), .int .i64 s.h1.port, .int .i64 s.h1.age, .int .i64 s.h1.hold, .int .i64 s.h1.pos, .slice s.ta s.tn s.tc] rfl _ Tryz.underlying32 rfl sizeScript ?_
 go_wp2_with fail
 refine (KL.out (w.heap.size + 1 + 1) (w.heap.size + 1 + 1 + 1) (w.heap.size + 1 + 1) fc fv _ (by omega) (Nat.le_refl _) (by omega) RD.out RG.out (fun W2 h2 => HP.out.below (HB.out.trans (h2.mono (by omega))))).mono ?_
 rintro e w7 ⟨rfl, p, rd, rg, hp7, rp, b7⟩
 have hs6 := HB.out.size
 have lg6 := RD.out.lt
 replace RD := Lib.hid rd
 replace RG := Lib.hid rg
 have RP := Lib.hid rp
 replace R1 := Lib.hid (R1.out.kept b7 (by omega))
 replace HB := Lib.hid (HB.out.trans (b7.mono (by omega)))
 clear rd rg rp b7 R0
 dsimp only
 go_upto_region 9 with fail
 iterate 7 (first | go_guarded | go_step | go_upon | go_back)
 refine Kit.wpList_load_row rfl 36 (.tmp 36) rfl (w.heap.size + 1 + 1 + 1) 0 rfl RD.out [.int .i64 n, .int .i64 0, .int .i64 fc, .int .i64 fv, .slice (some ⟨p, 0, none⟩) n n, .slice (some ⟨w.heap.size + 1 + 1, 0, none⟩) n n, .int .i64 ((Wm.fresh n).ag 0), .int .i64 ((Wm.fresh n).ag 1), .int .i64 ((Wm.fresh n).ag 2), .int .i64 ((Wm.fresh n).ag 3), .int .i64 ((Wm.fresh n).ag 4), .int .i64 ((Wm.fresh n).ag 5), .int .i64 ((Wm.fresh n).ag 6), .int .i64 ((Wm.fresh n).ag 7), .int .i64 ((Wm.fresh n).port), .int .i64 ((Wm.fresh n).age), .int .i64 ((Wm.fresh n).hold), .int .i64 ((Wm.fresh n).pos), .int .i64 ((Wm.fresh n).ag 0), .int .i64 ((Wm.fresh n).ag 1), .int .i64 ((Wm.fresh n).ag 2), .int .i64 ((Wm.fresh n).ag 3), .int .i64 ((Wm.fresh n).ag 4), .int .i64 ((Wm.fresh n).ag 5), .int .i64 ((Wm.fresh n).ag 6), .int .i64 ((Wm.fresh n).ag 7), .int .i64 ((Wm.fresh n).port), .int .i64 ((Wm.fresh n).age), .int .i64 ((Wm.fresh n).hold), .int .i64 ((Wm.fresh n).pos)] rfl _ Tryz.underlying36 rfl Sw.sizeWorld ?_
 refine Kit.wpList_store_row rfl 36 (.tmp 2) (.tmp 37) rfl (w.heap.size + 1) 0 #[.int .i64 n, .int .i64 0, .int .i64 fc, .int .i64 fv, .slice (some ⟨p, 0, none⟩) n n, .slice (some ⟨w.heap.size + 1 + 1, 0, none⟩) n n, .int .i64 ((Wm.fresh n).ag 0), .int .i64 ((Wm.fresh n).ag 1), .int .i64 ((Wm.fresh n).ag 2), .int .i64 ((Wm.fresh n).ag 3), .int .i64 ((Wm.fresh n).ag 4), .int .i64 ((Wm.fresh n).ag 5), .int .i64 ((Wm.fresh n).ag 6), .int .i64 ((Wm.fresh n).ag 7), .int .i64 ((Wm.fresh n).port), .int .i64 ((Wm.fresh n).age), .int .i64 ((Wm.fresh n).hold), .int .i64 ((Wm.fresh n).pos), .int .i64 ((Wm.fresh n).ag 0), .int .i64 ((Wm.fresh n).ag 1), .int .i64 ((Wm.fresh n).ag 2), .int .i64 ((Wm.fresh n).ag 3), .int .i64 ((Wm.fresh n).ag 4), .int .i64 ((Wm.fresh n).ag 5), .int .i64 ((Wm.fresh n).ag 6), .int .i64 ((Wm.fresh n).ag 7), .int .i64 ((Wm.fresh n).port), .int .i64 ((Wm.fresh n).age), .int .i64 ((Wm.fresh n).hold), .int .i64 ((Wm.fresh n).pos)] rfl rfl R1.out (by simp) Sw.sizeWorld (by first | rfl | (simp [Value.oneCell']; done) | decide) ?_
 intro W hW
 replace R1 : Hid (Kit.Row W (w.heap.size + 1) [.int .i64 n, .int .i64 0, .int .i64 fc, .int .i64 fv, .slice (some ⟨p, 0, none⟩) n n, .slice (some ⟨w.heap.size + 1 + 1, 0, none⟩) n n, .int .i64 ((Wm.fresh n).ag 0), .int .i64 ((Wm.fresh n).ag 1), .int .i64 ((Wm.fresh n).ag 2), .int .i64 ((Wm.fresh n).ag 3), .int .i64 ((Wm.fresh n).ag 4), .int .i64 ((Wm.fresh n).ag 5), .int .i64 ((Wm.fresh n).ag 6), .int .i64 ((Wm.fresh n).ag 7), .int .i64 ((Wm.fresh n).port), .int .i64 ((Wm.fresh n).age), .int .i64 ((Wm.fresh n).hold), .int .i64 ((Wm.fresh n).pos), .int .i64 ((Wm.fresh n).ag 0), .int .i64 ((Wm.fresh n).ag 1), .int .i64 ((Wm.fresh n).ag 2), .int .i64 ((Wm.fresh n).ag 3), .int .i64 ((Wm.fresh n).ag 4), .int .i64 ((Wm.fresh n).ag 5), .int .i64 ((Wm.fresh n).ag 6), .int .i64 ((Wm.fresh n).ag 7), .int .i64 ((Wm.fresh n).port), .int .i64 ((Wm.fresh n).age), .int .i64 ((Wm.fresh n).hold), .int .i64 ((Wm.fresh n).pos)]) := Lib.hid (R1.out.all hW rfl)
 replace RG := Lib.hid (RG.out.off hW (by omega))
 replace RP := Lib.hid (RP.out.off hW (by omega))
 replace HB := Lib.hid (Kit.below_of HB.out hW (by omega))
 clear hW
 go_wp2_with fail
 exact bodyPost_ret (Kit.res_ct Tryz.results12 _ _ (Kit.Var.mk' R1.out Tryz.underlying36 rfl Sw.sizeWorld)) rfl ⟨p, w.heap.size + 1 + 1, rfl, ⟨Whole.row RP.out (by simp [Pc.clean]), Nodes.row_of RG.out (by simp)⟩, by omega, by omega, HB.out⟩
end Nw
end Go.Proofs.YtgiojagdmglinaaGreatDoor
namespace Go.Proofs.YtgiojagdmglinaaGreatDoor
open Go.RowKit
structure Lk where
 tick : Int
 r0 : Fr
 r1 : Fr
 at_ : Option Addr
 n : Nat
 cap : Nat
 nodes : List Nd
instance : Inhabited Lk := ⟨⟨0, Fr.none, Fr.none, none, 0, 0, []⟩⟩
def Lk.cells (x : Lk) : List Value := [.int .i64 x.tick, .int .i64 x.r0.k, .int .i64 x.r0.i, .int .i64 x.r1.k, .int .i64 x.r1.i, .slice x.at_ x.n x.cap]
structure Lk.There (w : World) (x : Lk) : Prop where
 tick : -9223372036854775808 ≤ x.tick ∧ x.tick ≤ 9223372036854775807
 f0 : x.r0.fits
 f1 : x.r1.fits
 most : x.n ≤ maxLen
 nodes : Nodes w x.at_ x.n x.nodes
 fits : ∀ z ∈ x.nodes, z.fits
theorem Lk.There.below {w W : World} {x : Lk} (h : Lk.There w x) (hb : Below w.heap.size w W) : Lk.There W x := ⟨h.tick, h.f0, h.f1, h.most, h.nodes.below hb, h.fits⟩
structure Looks (w : World) (A : Option Addr) (n : Nat) (l : List Lk) : Prop where
 lies : Lies w A n 6 (l.map Lk.cells)
 there : ∀ z ∈ l, z.There w
theorem Looks.below {w W : World} {A : Option Addr} {n : Nat} {l : List Lk} (h : Looks w A n l) (hb : Below w.heap.size w W) : Looks W A n l := ⟨h.lies.below hb, fun z hz => (h.there z hz).below hb⟩
theorem Looks.len {w : World} {A : Option Addr} {n : Nat} {l : List Lk} (h : Looks w A n l) : l.length = n := by have := h.lies.len; simpa using this
theorem Looks.row {w : World} {A : Option Addr} {n : Nat} {l : List Lk} (h : Looks w A n l) (hn : 0 < n) : ∃ b off, A = some ⟨b, off, none⟩ ∧ b < w.heap.size ∧
  ∀ j x, l[j]? = some x → w.cell? ⟨b, off + j * 6, none⟩ = some (.int .i64 x.tick) ∧ w.cell? ⟨b, off + j * 6 + 1, none⟩ = some (.int .i64 x.r0.k) ∧ w.cell? ⟨b, off + j * 6 + 2, none⟩ = some (.int .i64 x.r0.i) ∧
   w.cell? ⟨b, off + j * 6 + 3, none⟩ = some (.int .i64 x.r1.k) ∧ w.cell? ⟨b, off + j * 6 + 4, none⟩ = some (.int .i64 x.r1.i) ∧ w.cell? ⟨b, off + j * 6 + 5, none⟩ = some (.slice x.at_ x.n x.cap) := by
 obtain ⟨b, off, e, hlt, hc⟩ := h.lies.at_ hn
 refine ⟨b, off, e, hlt, fun j x hj => ?_⟩
 have hj' : (l.map Lk.cells)[j]? = some x.cells := by rw [List.getElem?_map, hj]; rfl
 exact ⟨hc j _ hj' 0 _ rfl, hc j _ hj' 1 _ rfl, hc j _ hj' 2 _ rfl, hc j _ hj' 3 _ rfl, hc j _ hj' 4 _ rfl, hc j _ hj' 5 _ rfl⟩
theorem Looks.drop {w : World} {b off n : Nat} {l : List Lk} (h : Looks w (some ⟨b, off, none⟩) n l) {a : Nat} (ha : a ≤ n) : Looks w (some ⟨b, off + a * 6, none⟩) (n - a) (l.drop a) where
 lies := {
  len := by have := h.len; simp; omega
  at_ := fun hn => by
   obtain ⟨b', off', e, hlt, hc⟩ := h.lies.at_ (by omega)
   injection e with e
   injection e with e1 e2 e3
   subst e1 e2
   refine ⟨b, off + a * 6, rfl, hlt, fun j c hj i v hi => ?_⟩
   have hj' : (l.map Lk.cells)[a + j]? = some c := by rw [List.map_drop, List.getElem?_drop] at hj; exact hj
   have := hc (a + j) c hj' i v hi
   rw [show off + a * 6 + j * 6 + i = off + (a + j) * 6 + i by omega]
   exact this }
 there := fun z hz => h.there z (List.mem_of_mem_drop hz)
theorem Looks.take {w : World} {A : Option Addr} {n : Nat} {l : List Lk} (h : Looks w A n l) {m : Nat} (hm : m ≤ n) : Looks w A m (l.take m) where
 lies := {
  len := by have := h.len; simp; omega
  at_ := fun hn => by
   obtain ⟨b', off', e, hlt, hc⟩ := h.lies.at_ (by omega)
   refine ⟨b', off', e, hlt, fun j c hj i v hi => hc j c ?_ i v hi⟩
   have hjm : j < m := by
    have := (List.getElem?_eq_some_iff.1 hj).1
    simp at this
    omega
   rw [List.map_take, List.getElem?_take_of_lt hjm] at hj
   exact hj }
 there := fun z hz => h.there z (List.mem_of_mem_take hz)
end Go.Proofs.YtgiojagdmglinaaGreatDoor
