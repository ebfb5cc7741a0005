/-
  Part 6 of a merged text.
-/
import Derived.Test.YtgiojagdmglinaaGreatDoorGb05
import Derived.Great.Walk
import Derived.Test.YtgiojagdmglinaaGreatDoorProg
import Derived.Test.YtgiojagdmglinaaGreatDoorGb04
import Derived.Test.YtgiojagdmglinaaGreatDoorGb02
import Derived.WalkKit
import Derived.WalkLawsBesides
import Derived.WalkSpells
import Derived.Lib.Hide
import Derived.Deep.LoopGhost
import Derived.Deep.QuietTactic
import Derived.BigQuiet
import Derived.Laws.StructEq
import Derived.Test.YtgiojagdmglinaaGreatDoorGb00
set_option linter.unusedVariables false
set_option linter.unusedSimpArgs false
set_option maxRecDepth 100000
namespace Go.Proofs.YtgiojagdmglinaaGreatDoor
open Go.RowKit
namespace Say
set_option maxHeartbeats 1000000 in
theorem listenCs_calls (n j b : Int) (w : World) (h3 : 3 ≤ n) (h8 : n ≤ 8) (hj0 : 0 ≤ j) (hj1 : j < n) (hb0 : 0 ≤ b) (hb1 : b ≤ 1073741824) (hw : 4 * n + j + 1 ≤ b) :
  Calls Tryz.prog 66 #[.int .i64 n, .agg #[.int .i64 j, .int .i64 1, .int .i64 b, .int .i64 0]] w fun e w' => e = .returned (.tuple #[.agg #[.int .i64 1, .int .i64 j], .int .i64 0]) ∧ Below w.heap.size w w' := by
 have kr : ∀ W, Calls Tryz.prog 63 #[.int .i64 n, .agg #[.int .i64 j, .int .i64 1, .int .i64 b, .int .i64 0]] W fun e w' => e = .returned (.bool true) ∧ Below W.heap.size W w' := fun W => Nod.right_calls n j 1 b 0 W h3 h8 hj0 hj1 (by omega) hb0 hb1 (by omega) (by omega) (by omega) (by omega)
 have kw : ∀ W, Calls Tryz.prog 91 #[.int .i64 n, .agg #[.int .i64 j, .int .i64 1, .int .i64 b, .int .i64 0]] W fun e w' => e = .returned (.int .i64 (4 * n + j + 1)) ∧ Below W.heap.size W w' := fun W => Nod.wait_calls n j 1 b 0 W h3 h8 hj0 hj1
 have KR := Lib.hid kr
 have KW := Lib.hid kw
 clear kr kw
 have g : decide (b ≥ 4 * n + j + 1) = true := decide_eq_true hw
 clear hw
 go_enter Tryz.func66, Tryz.ntmps66
 go_wp2_with fail
 refine (KR.out _).mono ?_
 rintro e w1 ⟨rfl, b1⟩
 have c0 := Kit.cell_old b1 0 rfl
 have c1 := Kit.cell_old b1 1 rfl
 have c2 := Kit.cell_old b1 2 rfl
 have c3 := Kit.cell_old b1 3 rfl
 have p0 := Kit.cell_two b1 0 rfl
 have p1 := Kit.cell_two b1 1 rfl
 have hlt := Kit.lt_two b1
 have B1 := Lib.hid (Kit.chain (Kit.alloc2 ..) b1)
 have f0 := free_two b1 0
 have f1 := free_two b1 1
 clear b1
 go_wp2_with fail
 refine wp_region_held_drew (S := (fun w' => w'.cell? ⟨w.heap.size, 0, none⟩ = some (.int .i64 j) ∧ w'.cell? ⟨w.heap.size, 1, none⟩ = some (.int .i64 1) ∧ w'.cell? ⟨w.heap.size, 2, none⟩ = some (.int .i64 b) ∧ w'.cell? ⟨w.heap.size, 3, none⟩ = some (.int .i64 0))) (by kernel_rfl) ?_ (fun hHeld => ?_)
 ·go_keep
 refine Rgn.tk 0 rfl ?_
 try simp only [Act.put, Rgn.a, Rgn.b, Rgn.c]
 refine Rgn.tk 1 rfl ?_
 try simp only [Act.put, Rgn.a, Rgn.b, Rgn.c]
 refine Rgn.tk 2 rfl ?_
 try simp only [Act.put, Rgn.a, Rgn.b, Rgn.c]
 refine Rgn.tk 3 rfl ?_
 try simp only [Act.put, Rgn.a, Rgn.b, Rgn.c]
 refine Rgn.sk 4 rfl ?_
 try simp only [Act.put, Rgn.a, Rgn.b, Rgn.c]
 refine Rgn.sk 5 rfl ?_
 try simp only [Act.put, Rgn.a, Rgn.b, Rgn.c]
 refine Rgn.sk 6 rfl ?_
 try simp only [Act.put, Rgn.a, Rgn.b, Rgn.c]
 refine Rgn.tk 7 rfl ?_
 try simp only [Act.put, Rgn.a, Rgn.b, Rgn.c]
 refine Rgn.tk 8 rfl ?_
 try simp only [Act.put, Rgn.a, Rgn.b, Rgn.c]
 refine Rgn.tk 9 rfl ?_
 try simp only [Act.put, Rgn.a, Rgn.b, Rgn.c]
 refine Rgn.tk 10 rfl ?_
 try simp only [Act.put, Rgn.a, Rgn.b, Rgn.c]
 refine Rgn.tk 11 rfl ?_
 try simp only [Act.put, Rgn.a, Rgn.b, Rgn.c]
 refine Rgn.tk 12 rfl ?_
 try simp only [Act.put, Rgn.a, Rgn.b, Rgn.c]
 refine Rgn.one 13 rfl (by kernel_rfl) (fun K hK => ?_)
 go_simp
 refine (KW.out _).mono ?_
 rintro e w2 ⟨rfl, b2⟩
 replace f0 := Kit.free_below b2 p0 f0
 replace f1 := Kit.free_below b2 p1 f1
 replace p0 := Kit.cell_below b2 p0
 replace p1 := Kit.cell_below b2 p1
 replace c0 := Kit.cell_below b2 c0
 replace c1 := Kit.cell_below b2 c1
 replace c2 := Kit.cell_below b2 c2
 replace c3 := Kit.cell_below b2 c3
 have B2 := Lib.hid (Kit.chain B1.out.drew b2)
 have hlt2 := Nat.lt_of_lt_of_le hlt b2.size
 clear b2
 go_simp
 refine hK.out _ _ ?_ (fun hHeld => ?_)
 ·go_keep
 clear hK K
 try simp only [Act.put, Rgn.a, Rgn.b, Rgn.c]
 refine Rgn.tk 14 rfl ?_
 try simp only [Act.put, Rgn.a, Rgn.b, Rgn.c]
 refine Rgn.tk 15 rfl ?_
 try simp only [Act.put, Rgn.a, Rgn.b, Rgn.c]
 refine Rgn.tk 16 rfl ?_
 try simp only [Act.put, Rgn.a, Rgn.b, Rgn.c]
 refine wpAnyH_done (by kernel_rfl) ?_ _
 go_wp2_with fail
 refine bodyPost_ret (v := .tuple #[.agg #[.int .i64 1, .int .i64 j], .int .i64 0]) (by simp [results, Tryz.results66, go_sem, p0, p1, hlt, hlt2]) rfl ⟨rfl, ?_⟩
 repeat' (first | (with_reducible exact B2.out) | (with_reducible refine Below.setCell ?_ ?_ _) | (with_reducible refine Below.alloc ?_ ?_ _) | (with_reducible refine Below.drew ?_))
 all_goals (first | omega | (simp; done) | (simp; omega))
set_option maxHeartbeats 1000000 in
theorem listen_calls (n j b : Int) (w : World) (h3 : 3 ≤ n) (h8 : n ≤ 8) (hj0 : 0 ≤ j) (hj1 : j < n) (hb0 : 0 ≤ b) (hb1 : b ≤ 1073741824) (hw : ¬ 4 * n + j + 1 ≤ b) :
  Calls Tryz.prog 66 #[.int .i64 n, .agg #[.int .i64 j, .int .i64 1, .int .i64 b, .int .i64 0]] w fun e w' => e = .returned (.tuple #[.agg #[.int .i64 0, .int .i64 0], .int .i64 0]) ∧ Below w.heap.size w w' := by
 have kr : ∀ W, Calls Tryz.prog 63 #[.int .i64 n, .agg #[.int .i64 j, .int .i64 1, .int .i64 b, .int .i64 0]] W fun e w' => e = .returned (.bool true) ∧ Below W.heap.size W w' := fun W => Nod.right_calls n j 1 b 0 W h3 h8 hj0 hj1 (by omega) hb0 hb1 (by omega) (by omega) (by omega) (by omega)
 have kw : ∀ W, Calls Tryz.prog 91 #[.int .i64 n, .agg #[.int .i64 j, .int .i64 1, .int .i64 b, .int .i64 0]] W fun e w' => e = .returned (.int .i64 (4 * n + j + 1)) ∧ Below W.heap.size W w' := fun W => Nod.wait_calls n j 1 b 0 W h3 h8 hj0 hj1
 have KR := Lib.hid kr
 have KW := Lib.hid kw
 clear kr kw
 have g : decide (b ≥ 4 * n + j + 1) = false := decide_eq_false hw
 clear hw
 go_enter Tryz.func66, Tryz.ntmps66
 go_wp2_with fail
 refine (KR.out _).mono ?_
 rintro e w1 ⟨rfl, b1⟩
 have c0 := Kit.cell_old b1 0 rfl
 have c1 := Kit.cell_old b1 1 rfl
 have c2 := Kit.cell_old b1 2 rfl
 have c3 := Kit.cell_old b1 3 rfl
 have p0 := Kit.cell_two b1 0 rfl
 have p1 := Kit.cell_two b1 1 rfl
 have hlt := Kit.lt_two b1
 have B1 := Lib.hid (Kit.chain (Kit.alloc2 ..) b1)
 have f0 := free_two b1 0
 have f1 := free_two b1 1
 clear b1
 go_wp2_with fail
 refine wp_region_held_drew (S := (fun w' => w'.cell? ⟨w.heap.size, 0, none⟩ = some (.int .i64 j) ∧ w'.cell? ⟨w.heap.size, 1, none⟩ = some (.int .i64 1) ∧ w'.cell? ⟨w.heap.size, 2, none⟩ = some (.int .i64 b) ∧ w'.cell? ⟨w.heap.size, 3, none⟩ = some (.int .i64 0))) (by kernel_rfl) ?_ (fun hHeld => ?_)
 ·go_keep
 refine Rgn.tk 0 rfl ?_
 try simp only [Act.put, Rgn.a, Rgn.b, Rgn.c]
 refine Rgn.tk 1 rfl ?_
 try simp only [Act.put, Rgn.a, Rgn.b, Rgn.c]
 refine Rgn.tk 2 rfl ?_
 try simp only [Act.put, Rgn.a, Rgn.b, Rgn.c]
 refine Rgn.tk 3 rfl ?_
 try simp only [Act.put, Rgn.a, Rgn.b, Rgn.c]
 refine Rgn.sk 4 rfl ?_
 try simp only [Act.put, Rgn.a, Rgn.b, Rgn.c]
 refine Rgn.sk 5 rfl ?_
 try simp only [Act.put, Rgn.a, Rgn.b, Rgn.c]
 refine Rgn.sk 6 rfl ?_
 try simp only [Act.put, Rgn.a, Rgn.b, Rgn.c]
 refine Rgn.tk 7 rfl ?_
 try simp only [Act.put, Rgn.a, Rgn.b, Rgn.c]
 refine Rgn.tk 8 rfl ?_
 try simp only [Act.put, Rgn.a, Rgn.b, Rgn.c]
 refine Rgn.tk 9 rfl ?_
 try simp only [Act.put, Rgn.a, Rgn.b, Rgn.c]
 refine Rgn.tk 10 rfl ?_
 try simp only [Act.put, Rgn.a, Rgn.b, Rgn.c]
 refine Rgn.tk 11 rfl ?_
 try simp only [Act.put, Rgn.a, Rgn.b, Rgn.c]
 refine Rgn.tk 12 rfl ?_
 try simp only [Act.put, Rgn.a, Rgn.b, Rgn.c]
 refine Rgn.one 13 rfl (by kernel_rfl) (fun K hK => ?_)
 go_simp
 refine (KW.out _).mono ?_
 rintro e w2 ⟨rfl, b2⟩
 replace f0 := Kit.free_below b2 p0 f0
 replace f1 := Kit.free_below b2 p1 f1
 replace p0 := Kit.cell_below b2 p0
 replace p1 := Kit.cell_below b2 p1
 replace c0 := Kit.cell_below b2 c0
 replace c1 := Kit.cell_below b2 c1
 replace c2 := Kit.cell_below b2 c2
 replace c3 := Kit.cell_below b2 c3
 have B2 := Lib.hid (Kit.chain B1.out.drew b2)
 have hlt2 := Nat.lt_of_lt_of_le hlt b2.size
 clear b2
 go_simp
 refine hK.out _ _ ?_ (fun hHeld => ?_)
 ·go_keep
 clear hK K
 try simp only [Act.put, Rgn.a, Rgn.b, Rgn.c]
 refine Rgn.tk 14 rfl ?_
 try simp only [Act.put, Rgn.a, Rgn.b, Rgn.c]
 refine Rgn.tk 15 rfl ?_
 try simp only [Act.put, Rgn.a, Rgn.b, Rgn.c]
 refine Rgn.tk 16 rfl ?_
 try simp only [Act.put, Rgn.a, Rgn.b, Rgn.c]
 refine wpAnyH_done (by kernel_rfl) ?_ _
 go_wp2_with fail
 refine bodyPost_ret (v := .tuple #[.agg #[.int .i64 0, .int .i64 0], .int .i64 0]) (by simp [results, Tryz.results66, go_sem, p0, p1, hlt, hlt2]) rfl ⟨rfl, ?_⟩
 repeat' (first | (with_reducible exact B2.out) | (with_reducible refine Below.setCell ?_ ?_ _) | (with_reducible refine Below.alloc ?_ ?_ _) | (with_reducible refine Below.drew ?_))
 all_goals (first | omega | (simp; done) | (simp; omega))
set_option maxHeartbeats 1000000 in
theorem coldCs_calls (n j b : Int) (w : World) (h3 : 3 ≤ n) (h8 : n ≤ 8) (hj0 : 0 ≤ j) (hj1 : j < n) (hb0 : 0 ≤ b) (hb1 : b ≤ 1073741824) (hw : 2 * n + j + 1 ≤ b) :
  Calls Tryz.prog 66 #[.int .i64 n, .agg #[.int .i64 j, .int .i64 2, .int .i64 b, .int .i64 0]] w fun e w' => e = .returned (.tuple #[.agg #[.int .i64 1, .int .i64 j], .int .i64 0]) ∧ Below w.heap.size w w' := by
 have kr : ∀ W, Calls Tryz.prog 63 #[.int .i64 n, .agg #[.int .i64 j, .int .i64 2, .int .i64 b, .int .i64 0]] W fun e w' => e = .returned (.bool true) ∧ Below W.heap.size W w' := fun W => Nod.right_calls n j 2 b 0 W h3 h8 hj0 hj1 (by omega) hb0 hb1 (by omega) (by omega) (by omega) (by omega)
 have kw : ∀ W, Calls Tryz.prog 91 #[.int .i64 n, .agg #[.int .i64 j, .int .i64 2, .int .i64 b, .int .i64 0]] W fun e w' => e = .returned (.int .i64 (2 * n + j + 1)) ∧ Below W.heap.size W w' := fun W => Nod.wait_calls n j 2 b 0 W h3 h8 hj0 hj1
 have KR := Lib.hid kr
 have KW := Lib.hid kw
 clear kr kw
 have g : decide (b ≥ 2 * n + j + 1) = true := decide_eq_true hw
 clear hw
 go_enter Tryz.func66, Tryz.ntmps66
 go_wp2_with fail
 refine (KR.out _).mono ?_
 rintro e w1 ⟨rfl, b1⟩
 have c0 := Kit.cell_old b1 0 rfl
 have c1 := Kit.cell_old b1 1 rfl
 have c2 := Kit.cell_old b1 2 rfl
 have c3 := Kit.cell_old b1 3 rfl
 have p0 := Kit.cell_two b1 0 rfl
 have p1 := Kit.cell_two b1 1 rfl
 have hlt := Kit.lt_two b1
 have B1 := Lib.hid (Kit.chain (Kit.alloc2 ..) b1)
 have f0 := free_two b1 0
 have f1 := free_two b1 1
 clear b1
 go_wp2_with fail
 refine wp_region_held_drew (S := (fun w' => w'.cell? ⟨w.heap.size, 0, none⟩ = some (.int .i64 j) ∧ w'.cell? ⟨w.heap.size, 1, none⟩ = some (.int .i64 2) ∧ w'.cell? ⟨w.heap.size, 2, none⟩ = some (.int .i64 b) ∧ w'.cell? ⟨w.heap.size, 3, none⟩ = some (.int .i64 0))) (by kernel_rfl) ?_ (fun hHeld => ?_)
 ·go_keep
 refine Rgn.tk 0 rfl ?_
 try simp only [Act.put, Rgn.a, Rgn.b, Rgn.c]
 refine Rgn.tk 1 rfl ?_
 try simp only [Act.put, Rgn.a, Rgn.b, Rgn.c]
 refine Rgn.tk 2 rfl ?_
 try simp only [Act.put, Rgn.a, Rgn.b, Rgn.c]
 refine Rgn.tk 3 rfl ?_
 try simp only [Act.put, Rgn.a, Rgn.b, Rgn.c]
 refine Rgn.tk 4 rfl ?_
 try simp only [Act.put, Rgn.a, Rgn.b, Rgn.c]
 refine Rgn.tk 5 rfl ?_
 try simp only [Act.put, Rgn.a, Rgn.b, Rgn.c]
 refine Rgn.tk 6 rfl ?_
 try simp only [Act.put, Rgn.a, Rgn.b, Rgn.c]
 refine Rgn.tk 7 rfl ?_
 try simp only [Act.put, Rgn.a, Rgn.b, Rgn.c]
 refine Rgn.tk 8 rfl ?_
 try simp only [Act.put, Rgn.a, Rgn.b, Rgn.c]
 refine Rgn.tk 9 rfl ?_
 try simp only [Act.put, Rgn.a, Rgn.b, Rgn.c]
 refine Rgn.tk 10 rfl ?_
 try simp only [Act.put, Rgn.a, Rgn.b, Rgn.c]
 refine Rgn.tk 11 rfl ?_
 try simp only [Act.put, Rgn.a, Rgn.b, Rgn.c]
 refine Rgn.tk 12 rfl ?_
 try simp only [Act.put, Rgn.a, Rgn.b, Rgn.c]
 refine Rgn.one 13 rfl (by kernel_rfl) (fun K hK => ?_)
 go_simp
 refine (KW.out _).mono ?_
 rintro e w2 ⟨rfl, b2⟩
 replace f0 := Kit.free_below b2 p0 f0
 replace f1 := Kit.free_below b2 p1 f1
 replace p0 := Kit.cell_below b2 p0
 replace p1 := Kit.cell_below b2 p1
 replace c0 := Kit.cell_below b2 c0
 replace c1 := Kit.cell_below b2 c1
 replace c2 := Kit.cell_below b2 c2
 replace c3 := Kit.cell_below b2 c3
 have B2 := Lib.hid (Kit.chain B1.out.drew b2)
 have hlt2 := Nat.lt_of_lt_of_le hlt b2.size
 clear b2
 go_simp
 refine hK.out _ _ ?_ (fun hHeld => ?_)
 ·go_keep
 clear hK K
 try simp only [Act.put, Rgn.a, Rgn.b, Rgn.c]
 refine Rgn.tk 14 rfl ?_
 try simp only [Act.put, Rgn.a, Rgn.b, Rgn.c]
 refine Rgn.tk 15 rfl ?_
 try simp only [Act.put, Rgn.a, Rgn.b, Rgn.c]
 refine Rgn.tk 16 rfl ?_
 try simp only [Act.put, Rgn.a, Rgn.b, Rgn.c]
 refine wpAnyH_done (by kernel_rfl) ?_ _
 go_wp2_with fail
 refine bodyPost_ret (v := .tuple #[.agg #[.int .i64 1, .int .i64 j], .int .i64 0]) (by simp [results, Tryz.results66, go_sem, p0, p1, hlt, hlt2]) rfl ⟨rfl, ?_⟩
 repeat' (first | (with_reducible exact B2.out) | (with_reducible refine Below.setCell ?_ ?_ _) | (with_reducible refine Below.alloc ?_ ?_ _) | (with_reducible refine Below.drew ?_))
 all_goals (first | omega | (simp; done) | (simp; omega))
set_option maxHeartbeats 1000000 in
theorem cold_calls (n j b : Int) (w : World) (h3 : 3 ≤ n) (h8 : n ≤ 8) (hj0 : 0 ≤ j) (hj1 : j < n) (hb0 : 0 ≤ b) (hb1 : b ≤ 1073741824) (hw : ¬ 2 * n + j + 1 ≤ b) :
  Calls Tryz.prog 66 #[.int .i64 n, .agg #[.int .i64 j, .int .i64 2, .int .i64 b, .int .i64 0]] w fun e w' => e = .returned (.tuple #[.agg #[.int .i64 0, .int .i64 0], .int .i64 0]) ∧ Below w.heap.size w w' := by
 have kr : ∀ W, Calls Tryz.prog 63 #[.int .i64 n, .agg #[.int .i64 j, .int .i64 2, .int .i64 b, .int .i64 0]] W fun e w' => e = .returned (.bool true) ∧ Below W.heap.size W w' := fun W => Nod.right_calls n j 2 b 0 W h3 h8 hj0 hj1 (by omega) hb0 hb1 (by omega) (by omega) (by omega) (by omega)
 have kw : ∀ W, Calls Tryz.prog 91 #[.int .i64 n, .agg #[.int .i64 j, .int .i64 2, .int .i64 b, .int .i64 0]] W fun e w' => e = .returned (.int .i64 (2 * n + j + 1)) ∧ Below W.heap.size W w' := fun W => Nod.wait_calls n j 2 b 0 W h3 h8 hj0 hj1
 have KR := Lib.hid kr
 have KW := Lib.hid kw
 clear kr kw
 have g : decide (b ≥ 2 * n + j + 1) = false := decide_eq_false hw
 clear hw
 go_enter Tryz.func66, Tryz.ntmps66
 go_wp2_with fail
 refine (KR.out _).mono ?_
 rintro e w1 ⟨rfl, b1⟩
 have c0 := Kit.cell_old b1 0 rfl
 have c1 := Kit.cell_old b1 1 rfl
 have c2 := Kit.cell_old b1 2 rfl
 have c3 := Kit.cell_old b1 3 rfl
 have p0 := Kit.cell_two b1 0 rfl
 have p1 := Kit.cell_two b1 1 rfl
 have hlt := Kit.lt_two b1
 have B1 := Lib.hid (Kit.chain (Kit.alloc2 ..) b1)
 have f0 := free_two b1 0
 have f1 := free_two b1 1
 clear b1
 go_wp2_with fail
 refine wp_region_held_drew (S := (fun w' => w'.cell? ⟨w.heap.size, 0, none⟩ = some (.int .i64 j) ∧ w'.cell? ⟨w.heap.size, 1, none⟩ = some (.int .i64 2) ∧ w'.cell? ⟨w.heap.size, 2, none⟩ = some (.int .i64 b) ∧ w'.cell? ⟨w.heap.size, 3, none⟩ = some (.int .i64 0))) (by kernel_rfl) ?_ (fun hHeld => ?_)
 ·go_keep
 refine Rgn.tk 0 rfl ?_
 try simp only [Act.put, Rgn.a, Rgn.b, Rgn.c]
 refine Rgn.tk 1 rfl ?_
 try simp only [Act.put, Rgn.a, Rgn.b, Rgn.c]
 refine Rgn.tk 2 rfl ?_
 try simp only [Act.put, Rgn.a, Rgn.b, Rgn.c]
 refine Rgn.tk 3 rfl ?_
 try simp only [Act.put, Rgn.a, Rgn.b, Rgn.c]
 refine Rgn.tk 4 rfl ?_
 try simp only [Act.put, Rgn.a, Rgn.b, Rgn.c]
 refine Rgn.tk 5 rfl ?_
 try simp only [Act.put, Rgn.a, Rgn.b, Rgn.c]
 refine Rgn.tk 6 rfl ?_
 try simp only [Act.put, Rgn.a, Rgn.b, Rgn.c]
 refine Rgn.tk 7 rfl ?_
 try simp only [Act.put, Rgn.a, Rgn.b, Rgn.c]
 refine Rgn.tk 8 rfl ?_
 try simp only [Act.put, Rgn.a, Rgn.b, Rgn.c]
 refine Rgn.tk 9 rfl ?_
 try simp only [Act.put, Rgn.a, Rgn.b, Rgn.c]
 refine Rgn.tk 10 rfl ?_
 try simp only [Act.put, Rgn.a, Rgn.b, Rgn.c]
 refine Rgn.tk 11 rfl ?_
 try simp only [Act.put, Rgn.a, Rgn.b, Rgn.c]
 refine Rgn.tk 12 rfl ?_
 try simp only [Act.put, Rgn.a, Rgn.b, Rgn.c]
 refine Rgn.one 13 rfl (by kernel_rfl) (fun K hK => ?_)
 go_simp
 refine (KW.out _).mono ?_
 rintro e w2 ⟨rfl, b2⟩
 replace f0 := Kit.free_below b2 p0 f0
 replace f1 := Kit.free_below b2 p1 f1
 replace p0 := Kit.cell_below b2 p0
 replace p1 := Kit.cell_below b2 p1
 replace c0 := Kit.cell_below b2 c0
 replace c1 := Kit.cell_below b2 c1
 replace c2 := Kit.cell_below b2 c2
 replace c3 := Kit.cell_below b2 c3
 have B2 := Lib.hid (Kit.chain B1.out.drew b2)
 have hlt2 := Nat.lt_of_lt_of_le hlt b2.size
 clear b2
 go_simp
 refine hK.out _ _ ?_ (fun hHeld => ?_)
 ·go_keep
 clear hK K
 try simp only [Act.put, Rgn.a, Rgn.b, Rgn.c]
 refine Rgn.tk 14 rfl ?_
 try simp only [Act.put, Rgn.a, Rgn.b, Rgn.c]
 refine Rgn.tk 15 rfl ?_
 try simp only [Act.put, Rgn.a, Rgn.b, Rgn.c]
 refine Rgn.tk 16 rfl ?_
 try simp only [Act.put, Rgn.a, Rgn.b, Rgn.c]
 refine wpAnyH_done (by kernel_rfl) ?_ _
 go_wp2_with fail
 refine bodyPost_ret (v := .tuple #[.agg #[.int .i64 0, .int .i64 0], .int .i64 0]) (by simp [results, Tryz.results66, go_sem, p0, p1, hlt, hlt2]) rfl ⟨rfl, ?_⟩
 repeat' (first | (with_reducible exact B2.out) | (with_reducible refine Below.setCell ?_ ?_ _) | (with_reducible refine Below.alloc ?_ ?_ _) | (with_reducible refine Below.drew ?_))
 all_goals (first | omega | (simp; done) | (simp; omega))
end Say
end Go.Proofs.YtgiojagdmglinaaGreatDoor
namespace Go.Proofs.YtgiojagdmglinaaGreatDoor
open Go.RowKit
namespace Say
theorem of_calls (n i : Nat) (x : Nd) (w : World) (h3 : 3 ≤ n) (h8 : n ≤ 8) (hi : i < n) (hx : Wm.NRight n i x) :
  Calls Tryz.prog 66 #[.int .i64 n, .agg #[.int .i64 x.id, .int .i64 x.md, .int .i64 x.ct, .int .i64 x.ps]] w fun e w' => e = .returned (.tuple #[(Wm.say n x).val, .int .i64 0]) ∧ Below w.heap.size w w' := by
 obtain ⟨j, m, b, c⟩ := x
 obtain ⟨hid, ⟨hm0, hm1⟩, ⟨hb0, hb1⟩, ⟨hc0, hc1⟩, hinit, hrest⟩ := hx
 simp only at *
 have hb2 : b ≤ 1073741824 := hb1
 have hj0 : 0 ≤ j := by omega
 have hj1 : j < (n : Int) := by omega
 obtain hq | hq | hq | hq : m = 0 ∨ m = 1 ∨ m = 2 ∨ m = 3 := by omega
 ·subst hq
  obtain rfl := hinit rfl
  obtain rfl := hrest (by omega)
  have e : Wm.say n ⟨j, 0, 0, 0⟩ = Fr.none := by simp [Wm.say, Wm.cs]
  rw [e]
  exact init_calls n j w (by omega) (by omega) hj0 hj1
 ·subst hq
  obtain rfl := hrest (by omega)
  by_cases k : 4 * (n : Int) + j + 1 ≤ b
  ·have e : Wm.say n ⟨j, 1, b, 0⟩ = ⟨1, j⟩ := by simp [Wm.say, Wm.cs, Wm.wait, k]
   rw [e]
   exact listenCs_calls n j b w (by omega) (by omega) hj0 hj1 hb0 hb2 k
  ·have e : Wm.say n ⟨j, 1, b, 0⟩ = Fr.none := by simp [Wm.say, Wm.cs, Wm.wait, k]
   rw [e]
   exact listen_calls n j b w (by omega) (by omega) hj0 hj1 hb0 hb2 k
 ·subst hq
  obtain rfl := hrest (by omega)
  by_cases k : 2 * (n : Int) + j + 1 ≤ b
  ·have e : Wm.say n ⟨j, 2, b, 0⟩ = ⟨1, j⟩ := by simp [Wm.say, Wm.cs, Wm.wait, k]
   rw [e]
   exact coldCs_calls n j b w (by omega) (by omega) hj0 hj1 hb0 hb2 k
  ·have e : Wm.say n ⟨j, 2, b, 0⟩ = Fr.none := by simp [Wm.say, Wm.cs, Wm.wait, k]
   rw [e]
   exact cold_calls n j b w (by omega) (by omega) hj0 hj1 hb0 hb2 k
 ·subst hq
  by_cases k : c = j
  ·subst k
   have e : Wm.say n ⟨c, 3, b, c⟩ = ⟨2, c⟩ := by simp [Wm.say]
   rw [e]
   exact own_calls n c b w (by omega) (by omega) hj0 hj1 hb0 hb2
  ·have e : Wm.say n ⟨j, 3, b, c⟩ = Fr.none := by simp [Wm.say, Wm.cs, k]
   rw [e]
   exact other_calls n j b c w (by omega) (by omega) hj0 hj1 hb0 hb2 hc0 hc1 k
end Say
end Go.Proofs.YtgiojagdmglinaaGreatDoor
namespace Go.Proofs.YtgiojagdmglinaaGreatDoor
open Go.RowKit
namespace Tal
set_option maxHeartbeats 400000 in
theorem next_calls (n p : Int) (w : World) (h3 : 3 ≤ n) (h8 : n ≤ 8) (hp : 0 ≤ p ∧ p < n) :
  Calls Tryz.prog 49 #[.int .i64 n, .int .i64 p] w fun e w' => e = .returned (.int .i64 (Wm.nx n p)) ∧ w = w' := by
 obtain ⟨hp0, hp1⟩ := hp
 unfold Wm.nx
 by_cases h : p = n - 1
 ·rw [if_pos h]
  have g : (p == n - 1) = true := by rw [h]; simp
  clear h
  go_enter Tryz.func49, Tryz.ntmps49
  go_wp2_with fail
  go_ret
  exact ⟨rfl, rfl⟩
 ·rw [if_neg h]
  have g : (p == n - 1) = false := beq_eq_false_iff_ne.2 h
  clear h
  go_enter Tryz.func49, Tryz.ntmps49
  go_wp2_with fail
  go_ret
  exact ⟨rfl, rfl⟩
end Tal
namespace Act0
set_option maxHeartbeats 400000 in
theorem become_calls (b : Nat) (m : Int) {v1 v2 v3 : Int} (w : World) (c1 : w.cell? ⟨b, 1, none⟩ = some (.int .i64 v1)) (c2 : w.cell? ⟨b, 2, none⟩ = some (.int .i64 v2)) (c3 : w.cell? ⟨b, 3, none⟩ = some (.int .i64 v3))
  (f1 : w.frozen? ⟨b, 1, none⟩ = false) (f2 : w.frozen? ⟨b, 2, none⟩ = false) (f3 : w.frozen? ⟨b, 3, none⟩ = false) :
  Calls Tryz.prog 146 #[.pointer (some ⟨b, 0, none⟩), .int .i64 m] w fun e w' => e = .returned (.tuple #[]) ∧ w' = ((w.setCell ⟨b, 1, none⟩ (.int .i64 m)).setCell ⟨b, 2, none⟩ (.int .i64 0)).setCell ⟨b, 3, none⟩ (.int .i64 0) := by
 go_enter Tryz.func146, Tryz.ntmps146
 go_wp2_with fail
 exact Great.bodyPost_end0 rfl rfl ⟨rfl, rfl⟩
set_option maxHeartbeats 400000 in
theorem wait_calls (b : Nat) {v2 : Int} (w : World) (c2 : w.cell? ⟨b, 2, none⟩ = some (.int .i64 v2)) (f2 : w.frozen? ⟨b, 2, none⟩ = false) (h0 : 0 ≤ v2) (h1 : v2 ≤ 1073741824) :
  Calls Tryz.prog 147 #[.pointer (some ⟨b, 0, none⟩)] w fun e w' => e = .returned (.tuple #[]) ∧ w' = w.setCell ⟨b, 2, none⟩ (.int .i64 (Wm.up v2 1073741824)) := by
 have ku := Tal.up_calls v2 1073741824 w h0 (by omega) h1
 have KU := Lib.hid ku
 clear ku
 go_enter Tryz.func147, Tryz.ntmps147
 go_wp2_with fail
 refine KU.out.mono ?_
 rintro e w' ⟨rfl, rfl⟩
 go_wp2_with fail
 exact Great.bodyPost_end0 rfl rfl ⟨rfl, rfl⟩
set_option maxHeartbeats 400000 in
theorem join_calls (b : Nat) (n j : Int) {v1 v2 v3 : Int} (w : World) (c1 : w.cell? ⟨b, 1, none⟩ = some (.int .i64 v1)) (c2 : w.cell? ⟨b, 2, none⟩ = some (.int .i64 v2)) (c3 : w.cell? ⟨b, 3, none⟩ = some (.int .i64 v3)) (c4 : w.cell? ⟨b, 4, none⟩ = some (.int .i64 n))
  (f1 : w.frozen? ⟨b, 1, none⟩ = false) (f2 : w.frozen? ⟨b, 2, none⟩ = false) (f3 : w.frozen? ⟨b, 3, none⟩ = false) (h3 : 3 ≤ n) (h8 : n ≤ 8) (hj : 0 ≤ j ∧ j < n) :
  Calls Tryz.prog 145 #[.pointer (some ⟨b, 0, none⟩), .int .i64 j] w fun e w' => e = .returned (.tuple #[]) ∧ w' = (((w.setCell ⟨b, 1, none⟩ (.int .i64 3)).setCell ⟨b, 2, none⟩ (.int .i64 0)).setCell ⟨b, 3, none⟩ (.int .i64 0)).setCell ⟨b, 3, none⟩ (.int .i64 (Wm.nx n j)) := by
 have kb := become_calls b 3 w c1 c2 c3 f1 f2 f3
 have kn : ∀ W, Calls Tryz.prog 49 #[.int .i64 n, .int .i64 j] W fun e w' => e = .returned (.int .i64 (Wm.nx n j)) ∧ W = w' := fun W => Tal.next_calls n j W h3 h8 hj
 have KB := Lib.hid kb
 have KN := Lib.hid kn
 clear kb kn hj
 go_enter Tryz.func145, Tryz.ntmps145
 go_wp2_with fail
 refine KB.out.mono ?_
 rintro e w' ⟨rfl, rfl⟩
 go_wp2_with fail
 refine (KN.out _).mono ?_
 rintro e w' ⟨rfl, rfl⟩
 go_wp2_with fail
 exact Great.bodyPost_end0 rfl rfl ⟨rfl, rfl⟩
end Act0
end Go.Proofs.YtgiojagdmglinaaGreatDoor
namespace Go.Proofs.YtgiojagdmglinaaGreatDoor
open Go.RowKit
def Hear.Is (g : Nat) (lb : Array Value) (p : Fr → Bool) (l : List Fr) (w : World) : Prop :=
 ∀ (W : World) (x : Fr), Below w.heap.size w W → x ∈ l → Calls Tryz.prog g (#[.agg #[.int .i64 x.k, .int .i64 x.i]] ++ lb) W fun e w' => e = .returned (.bool (p x)) ∧ Below W.heap.size W w'
set_option maxHeartbeats 400000 in
theorem Hear.ifunc_calls (A : Option Addr) (n cap : Nat) (l : List Fr) (g : Nat) (lb : Array Value) (p : Fr → Bool) (w : World) (hl : Frames w A n l) (hn : n ≤ 1000000)
  (eg : ∀ args w, (callFunc g args).run Tryz.prog w = .ok (.enter g args) w) (hp : Hear.Is g lb p l w) :
  Calls Tryz.prog 141 #[.slice A n cap, .func (.func g) #[] lb] w fun e w' => e = .returned (.int .i64 (Vw.idx p l)) ∧ Below w.heap.size w w' := by
 have HL := Lib.hid hl
 have HP : Hid (Hear.Is g lb p l w) := Lib.hid hp
 clear hl hp
 go_enter Tryz.func141, Tryz.ntmps141
 go_wp2_with fail
 go_loopw [5, 8] (fun _ vi wr => ∃ k : Nat, k ≤ n ∧ vi = .int .i64 k ∧ Hid (Below w.heap.size w wr) ∧ Hid (∀ (j : Nat) (y : Fr), j < k → l[j]? = some y → p y = false)) (fun _ vi _ => n - (intOf vi).toNat)
 case atStart => exact ⟨0, by omega, rfl, Lib.hid (Below.refl _ _), Lib.hid (fun j y h => absurd h (by omega))⟩
 case round =>
  obtain ⟨k, hk, rfl, HB, HA⟩ := hrel
  by_cases hlt : k < n
  ·obtain ⟨b, off, rfl, hb, hrow⟩ := HL.out.row (by omega)
   have hkl : k < l.length := by rw [HL.out.len]; exact hlt
   obtain ⟨x, hx⟩ : ∃ x, l[k]? = some x := ⟨_, List.getElem?_eq_getElem hkl⟩
   have m0 := (HB.out.cell (p := ⟨b, off + k * 2, none⟩) hb).trans (hrow k x hx).1
   have m1 := (HB.out.cell (p := ⟨b, off + k * 2 + 1, none⟩) hb).trans (hrow k x hx).2
   have cs := HP.out wr x HB.out (List.mem_of_getElem? hx)
   have HX := Lib.hid hx
   clear hrow hx
   cases hq : p x with
   | true =>
    rw [hq] at cs
    have HQ := Lib.hid hq
    clear hq
    go_wp2_with fail
    refine cs.mono ?_
    rintro e w1 ⟨rfl, b1⟩
    go_wp2_with fail
    go_ret
    exact ⟨by rw [Vw.idx_hit p l k x HX.out HQ.out HA.out]; rfl, HB.out.trans (b1.mono HB.out.size)⟩
   | false =>
    rw [hq] at cs
    have HA2 : Hid (∀ (j : Nat) (y : Fr), j < k + 1 → l[j]? = some y → p y = false) := Lib.hid (fun j y hj hy => by
     by_cases e : j = k
     ·subst e; have := HX.out; rw [this] at hy; injection hy with hy; rw [← hy]; exact hq
     ·exact HA.out j y (by omega) hy)
    clear hq
    go_wp2_with fail
    refine cs.mono ?_
    rintro e w1 ⟨rfl, b1⟩
    have B1 := Lib.hid (HB.out.trans (b1.mono HB.out.size))
    clear b1
    go_wp2_with fail
    go_roundw
    case rel => exact ⟨k + 1, by omega, by go_num, B1, HA2⟩
    case measure => simp [intOf]; omega
  ·obtain rfl : k = n := by omega
   go_wp2_with fail
   go_ret
   exact ⟨by rw [Vw.idx_miss p l (fun j y hy => HA.out j y (by have := (List.getElem?_eq_some_iff.1 hy).1; rw [HL.out.len] at this; exact this) hy)]; rfl, HB.out⟩
set_option maxHeartbeats 400000 in
theorem Hear.index_calls (A : Option Addr) (n cap : Nat) (l : List Fr) (z : Fr) (w : World) (hl : Frames w A n l) (hn : n ≤ 1000000) :
  Calls Tryz.prog 164 #[.slice A n cap, .agg #[.int .i64 z.k, .int .i64 z.i]] w fun e w' => e = .returned (.int .i64 (Vw.idx (fun x => z.k == x.k && z.i == x.i) l)) ∧ Below w.heap.size w w' := by
 have HL := Lib.hid hl
 clear hl
 generalize hpp : (fun x : Fr => z.k == x.k && z.i == x.i) = p
 have HPP := Lib.hid hpp
 clear hpp
 obtain ⟨zk, zi⟩ := z
 go_enter Tryz.func164, Tryz.ntmps164
 go_wp2_with fail
 go_loopw [5, 8] (fun _ vi wr => ∃ k : Nat, k ≤ n ∧ vi = .int .i64 k ∧ wr.cell? ⟨w.heap.size, 0, none⟩ = some (.int .i64 zk) ∧ wr.cell? ⟨w.heap.size, 1, none⟩ = some (.int .i64 zi) ∧ Hid (Below w.heap.size w wr) ∧ Hid (∀ (j : Nat) (y : Fr), j < k → l[j]? = some y → p y = false)) (fun _ vi _ => n - (intOf vi).toNat)
 case atStart => exact ⟨0, by omega, rfl, by go_simp, by go_simp, Lib.hid ((Below.refl _ _).alloc (Nat.le_refl _) _), Lib.hid (fun j y h => absurd h (by omega))⟩
 case round =>
  obtain ⟨k, hk, rfl, z0, z1, HB, HA⟩ := hrel
  by_cases hlt : k < n
  ·obtain ⟨b, off, rfl, hb, hrow⟩ := HL.out.row (by omega)
   have hkl : k < l.length := by rw [HL.out.len]; exact hlt
   obtain ⟨x, hx⟩ : ∃ x, l[k]? = some x := ⟨_, List.getElem?_eq_getElem hkl⟩
   have m0 := (HB.out.cell (p := ⟨b, off + k * 2, none⟩) hb).trans (hrow k x hx).1
   have m1 := (HB.out.cell (p := ⟨b, off + k * 2 + 1, none⟩) hb).trans (hrow k x hx).2
   have HX := Lib.hid hx
   have hpx : p x = (zk == x.k && zi == x.i) := by rw [← HPP.out]
   clear hrow hx
   by_cases hq : zk = x.k ∧ zi = x.i
   ·have hq' : p x = true := by rw [hpx, hq.1, hq.2]; simp
    have HQ := Lib.hid hq'
    have g1 : (zk == x.k) = true := by rw [hq.1]; simp
    have g2 : (zi == x.i) = true := by rw [hq.2]; simp
    clear hq hq' hpx
    go_wp2_with fail
    go_quiet (fail)
    go_wp2_with fail
    go_ret
    exact ⟨by rw [Vw.idx_hit p l k x HX.out HQ.out HA.out]; rfl, HB.out.trans ((Kit.below_drewN _ _).mono HB.out.size)⟩
   ·have hq' : p x = false := by rw [hpx]; simp; intro e1 e2; exact hq ⟨e1, e2⟩
    have g3 : (zk == x.k && zi == x.i) = false := by rw [← hpx]; exact hq'
    have HA2 : Hid (∀ (j : Nat) (y : Fr), j < k + 1 → l[j]? = some y → p y = false) := Lib.hid (fun j y hj hy => by
     by_cases e : j = k
     ·subst e; have := HX.out; rw [this] at hy; injection hy with hy; rw [← hy]; exact hq'
     ·exact HA.out j y (by omega) hy)
    by_cases g1 : zk = x.k
    ·have g1' : (zk == x.k) = true := by rw [g1]; simp
     have g2' : (zi == x.i) = false := by rw [beq_eq_false_iff_ne]; exact fun e => hq ⟨g1, e⟩
     clear hq hq' hpx g3 g1
     go_wp2_with fail
     go_quiet (fail)
     go_wp2_with fail
     go_roundw
     case rel => exact ⟨k + 1, by omega, by go_num, by go_simp, by go_simp, Lib.hid (HB.out.trans ((Kit.below_drewN _ _).mono HB.out.size)), HA2⟩
     case measure => simp [intOf]; omega
    ·have g1' : (zk == x.k) = false := by rw [beq_eq_false_iff_ne]; exact g1
     clear hq hq' hpx g3 g1
     go_wp2_with fail
     go_quiet (fail)
     go_wp2_with fail
     go_roundw
     case rel => exact ⟨k + 1, by omega, by go_num, by go_simp, by go_simp, Lib.hid (HB.out.trans ((Kit.below_drewN _ _).mono HB.out.size)), HA2⟩
     case measure => simp [intOf]; omega
  ·obtain rfl : k = n := by omega
   go_wp2_with fail
   go_ret
   exact ⟨by rw [Vw.idx_miss p l (fun j y hy => HA.out j y (by have := (List.getElem?_eq_some_iff.1 hy).1; rw [HL.out.len] at this; exact this) hy)]; rfl, HB.out⟩
set_option maxHeartbeats 400000 in
theorem Hear.contains_calls (A : Option Addr) (n cap : Nat) (l : List Fr) (z : Fr) (w : World) (hl : Frames w A n l) (hn : n ≤ 1000000) :
  Calls Tryz.prog 161 #[.slice A n cap, .agg #[.int .i64 z.k, .int .i64 z.i]] w fun e w' => e = .returned (.bool (l.any fun x => z.k == x.k && z.i == x.i)) ∧ Below w.heap.size w w' := by
 have c1 := fun T => Hear.index_calls A n cap l z _ (hl.below ((Below.refl w.heap.size w).alloc (Nat.le_refl _) (.cells #[.int .i64 z.k, .int .i64 z.i] T))) hn
 have ha := Vw.idx_any (fun x : Fr => z.k == x.k && z.i == x.i) l
 have HA := Lib.hid ha
 clear ha hl
 generalize Vw.idx (fun x : Fr => z.k == x.k && z.i == x.i) l = q at *
 obtain ⟨zk, zi⟩ := z
 go_enter Tryz.func161, Tryz.ntmps161
 go_wp2_with fail
 refine (c1 _).mono ?_
 rintro e w1 ⟨rfl, b1⟩
 go_wp2_with fail
 go_ret
 exact ⟨by rw [← HA.out]; rfl, Kit.chain ((Below.refl _ _).alloc (Nat.le_refl _) _) b1⟩
end Go.Proofs.YtgiojagdmglinaaGreatDoor
namespace Go.Proofs.YtgiojagdmglinaaGreatDoor
open Go.RowKit
def Hear.oi (o : Option Int) : Int := o.getD 0
def Hear.two (a b : Fr) : Value := .agg #[.int .i64 a.k, .int .i64 a.i, .int .i64 b.k, .int .i64 b.i]
def Hear.cells (a b : Fr) : Array Value := #[.int .i64 a.k, .int .i64 a.i, .int .i64 b.k, .int .i64 b.i]
theorem Hear.frames (a b : Fr) (w : World) (T : TypeId) : Frames (w.alloc (.cells #[.int .i64 a.k, .int .i64 a.i, .int .i64 b.k, .int .i64 b.i] T)) (some ⟨w.heap.size, 0, none⟩) 2 [a, b] :=
 Lies.built w _ T 2 2 _ rfl (by intro c hc; simp at hc; rcases hc with rfl | rfl <;> rfl) rfl
theorem Hear.info : (Tryz.prog.info? 46).isSome = true := by kernel_rfl
set_option maxHeartbeats 1000000 in
theorem Hear.first_calls (a b : Fr) (g : Nat) (lb : Array Value) (p : Fr → Bool) (w : World)
  (eg : ∀ args w, (callFunc g args).run Tryz.prog w = .ok (.enter g args) w) (hp : Hear.Is g lb p [a, b] w) :
  Calls Tryz.prog 157 #[.agg #[.int .i64 a.k, .int .i64 a.i, .int .i64 b.k, .int .i64 b.i], .func (.func g) #[] lb] w
   fun e w' => e = .returned (.tuple #[.int .i64 (Hear.oi (Wm.hears p a b)), .bool (Wm.hears p a b).isSome]) ∧ Below w.heap.size w w' := by
 have hB : ∀ T, Below w.heap.size w (w.alloc (.cells #[.int .i64 a.k, .int .i64 a.i, .int .i64 b.k, .int .i64 b.i] T)) := fun T => (Below.refl _ _).alloc (Nat.le_refl _) _
 have c1 := fun T => Hear.ifunc_calls (some ⟨w.heap.size, 0, none⟩) 2 2 [a, b] g lb p _ (Hear.frames a b w T) (by omega) eg (fun W x hW hx => hp W x (Kit.chain (hB T) hW) hx)
 clear hp hB
 cases pa : p a with
 | true =>
  have h1 : Vw.idx p [a, b] = 0 := by simp [Vw.idx, List.findIdx?_cons, pa]
  have h2 : Wm.hears p a b = some a.i := by simp [Wm.hears, pa]
  rw [h2]
  rw [h1] at c1
  clear h1 h2 pa
  obtain ⟨ak, ai⟩ := a
  obtain ⟨bk, bi⟩ := b
  go_enter Tryz.func157, Tryz.ntmps157
  go_wp2_with fail
  refine (c1 _).mono ?_
  rintro e w1 ⟨rfl, b1⟩
  have m1 := Kit.cell_new b1 1 rfl
  have B1 := Lib.hid b1
  clear b1
  go_wp2_with fail
  go_ret2
  exact ⟨rfl, Kit.chain ((Below.refl _ _).alloc (Nat.le_refl _) _) B1.out⟩
 | false =>
  cases pb : p b with
  | true =>
   have h1 : Vw.idx p [a, b] = 1 := by simp [Vw.idx, List.findIdx?_cons, pa, pb]
   have h2 : Wm.hears p a b = some b.i := by simp [Wm.hears, pa, pb]
   rw [h2]
   rw [h1] at c1
   clear h1 h2 pa pb
   obtain ⟨ak, ai⟩ := a
   obtain ⟨bk, bi⟩ := b
   go_enter Tryz.func157, Tryz.ntmps157
   go_wp2_with fail
   refine (c1 _).mono ?_
   rintro e w1 ⟨rfl, b1⟩
   have m1 := Kit.cell_new b1 3 rfl
   have B1 := Lib.hid b1
   clear b1
   go_wp2_with fail
   go_ret2
   exact ⟨rfl, Kit.chain ((Below.refl _ _).alloc (Nat.le_refl _) _) B1.out⟩
  | false =>
   have h1 : Vw.idx p [a, b] = -1 := by simp [Vw.idx, List.findIdx?_cons, pa, pb]
   have h2 : Wm.hears p a b = none := by simp [Wm.hears, pa, pb]
   rw [h2]
   rw [h1] at c1
   clear h1 h2 pa pb
   obtain ⟨ak, ai⟩ := a
   obtain ⟨bk, bi⟩ := b
   go_enter Tryz.func157, Tryz.ntmps157
   go_wp2_with fail
   refine (c1 _).mono ?_
   rintro e w1 ⟨rfl, b1⟩
   have B1 := Lib.hid b1
   clear b1
   go_wp2_with fail
   go_ret2
   exact ⟨rfl, Kit.chain ((Below.refl _ _).alloc (Nat.le_refl _) _) B1.out⟩
set_option maxHeartbeats 400000 in
theorem Hear.info1_calls (x y : Int) (w : World) :
  Calls Tryz.prog 158 #[.agg #[.int .i64 x, .int .i64 y]] w fun e w' => e = .returned (.bool (x == 2)) ∧ Below w.heap.size w w' := by
 go_enter Tryz.func158, Tryz.ntmps158
 go_wp2_with fail
 go_ret
 exact ⟨rfl, (Below.refl _ _).alloc (Nat.le_refl _) _⟩
set_option maxHeartbeats 400000 in
theorem Hear.other1_calls (x y i : Int) (B : Nat) (w : World) (h : w.cell? ⟨B, 0, none⟩ = some (.int .i64 i)) :
  Calls Tryz.prog 159 #[.agg #[.int .i64 x, .int .i64 y], .pointer (some ⟨B, 0, none⟩)] w fun e w' => e = .returned (.bool (x == 1 && y != i)) ∧ Below w.heap.size w w' := by
 have hlt := World.block_lt_of_cell? w ⟨B, 0, none⟩ h
 cases hx : x == 1
 all_goals
  go_enter Tryz.func159, Tryz.ntmps159
  go_wp2_with fail
  go_ret
  exact ⟨by first | rfl | simp, (Below.refl _ _).alloc (Nat.le_refl _) _⟩
set_option maxHeartbeats 400000 in
theorem Hear.wrong1_calls (x y i : Int) (B : Nat) (w : World) (h : w.cell? ⟨B, 0, none⟩ = some (.int .i64 i)) :
  Calls Tryz.prog 160 #[.agg #[.int .i64 x, .int .i64 y], .pointer (some ⟨B, 0, none⟩)] w fun e w' => e = .returned (.bool (x == 2 && y != i)) ∧ Below w.heap.size w w' := by
 have hlt := World.block_lt_of_cell? w ⟨B, 0, none⟩ h
 cases hx : x == 2
 all_goals
  go_enter Tryz.func160, Tryz.ntmps160
  go_wp2_with fail
  go_ret
  exact ⟨by first | rfl | simp, (Below.refl _ _).alloc (Nat.le_refl _) _⟩
set_option maxHeartbeats 400000 in
theorem Hear.info_calls (a b : Fr) (w : World) :
  Calls Tryz.prog 143 #[.agg #[.int .i64 a.k, .int .i64 a.i, .int .i64 b.k, .int .i64 b.i]] w
   fun e w' => e = .returned (.tuple #[.int .i64 (Hear.oi (Wm.info a b)), .bool (Wm.info a b).isSome]) ∧ Below w.heap.size w w' := by
 have c1 := fun W => Hear.first_calls a b 158 #[] (fun f => f.k == 2) W (Kit.enters Tryz.func158 (by kernel_rfl) rfl) (fun W x _ _ => Hear.info1_calls _ _ W)
 unfold Wm.info
 generalize Wm.hears (fun f : Fr => f.k == 2) a b = o at *
 obtain ⟨ak, ai⟩ := a
 obtain ⟨bk, bi⟩ := b
 go_enter Tryz.func143, Tryz.ntmps143
 go_wp2_with fail
 refine (c1 _).mono ?_
 rintro e w1 ⟨rfl, b1⟩
 have B1 := Lib.hid b1
 clear b1
 go_wp2_with fail
 go_ret2
 exact ⟨rfl, Kit.chain ((Below.refl _ _).alloc (Nat.le_refl _) _) B1.out⟩
theorem Hear.boxed (w : World) (cs cs2 : Array Value) (T T2 : TypeId) : Below w.heap.size w ((w.alloc (.cells cs T)).alloc (.cells cs2 T2)) := ((Below.refl _ _).alloc (Nat.le_refl _) _).alloc (by simp) _
set_option maxHeartbeats 400000 in
theorem Hear.other_calls (a b : Fr) (i : Int) (w : World) :
  Calls Tryz.prog 144 #[.agg #[.int .i64 a.k, .int .i64 a.i, .int .i64 b.k, .int .i64 b.i], .int .i64 i] w
   fun e w' => e = .returned (.tuple #[.int .i64 (Hear.oi (Wm.other i a b)), .bool (Wm.other i a b).isSome]) ∧ Below w.heap.size w w' := by
 have c1 := fun (W : World) (B : Nat) (h : W.cell? ⟨B, 0, none⟩ = some (.int .i64 i)) => Hear.first_calls a b 159 #[.pointer (some ⟨B, 0, none⟩)] (fun f => f.k == 1 && f.i != i) W (Kit.enters Tryz.func159 (by kernel_rfl) rfl) (fun W' x hW _ => Hear.other1_calls _ _ i B W' (Kit.cell_below hW h))
 unfold Wm.other
 generalize Wm.hears (fun f : Fr => f.k == 1 && f.i != i) a b = o at *
 have C1 := Lib.hid c1
 clear c1
 obtain ⟨ak, ai⟩ := a
 obtain ⟨bk, bi⟩ := b
 go_enter Tryz.func144, Tryz.ntmps144
 go_wp2_with fail
 refine (C1.out _ _ (by go_simp)).mono ?_
 rintro e w1 ⟨rfl, b1⟩
 have B1 := Lib.hid b1
 clear b1
 go_wp2_with fail
 go_ret2
 exact ⟨rfl, Kit.chain (Hear.boxed ..) B1.out⟩
set_option maxHeartbeats 400000 in
theorem Hear.wrong_calls (a b : Fr) (i : Int) (w : World) :
  Calls Tryz.prog 148 #[.agg #[.int .i64 a.k, .int .i64 a.i, .int .i64 b.k, .int .i64 b.i], .int .i64 i] w
   fun e w' => e = .returned (.bool (Wm.wrong i a b)) ∧ Below w.heap.size w w' := by
 have c1 := fun (W : World) (B : Nat) (h : W.cell? ⟨B, 0, none⟩ = some (.int .i64 i)) => Hear.first_calls a b 160 #[.pointer (some ⟨B, 0, none⟩)] (fun f => f.k == 2 && f.i != i) W (Kit.enters Tryz.func160 (by kernel_rfl) rfl) (fun W' x hW _ => Hear.wrong1_calls _ _ i B W' (Kit.cell_below hW h))
 have hw : Wm.wrong i a b = (Wm.hears (fun f : Fr => f.k == 2 && f.i != i) a b).isSome := by
  unfold Wm.wrong Wm.hears
  cases h1 : (a.k == 2 && a.i != i) <;> cases h2 : (b.k == 2 && b.i != i) <;> simp [h1, h2]
 rw [hw]
 clear hw
 generalize Wm.hears (fun f : Fr => f.k == 2 && f.i != i) a b = o at *
 have C1 := Lib.hid c1
 clear c1
 obtain ⟨ak, ai⟩ := a
 obtain ⟨bk, bi⟩ := b
 go_enter Tryz.func148, Tryz.ntmps148
 go_wp2_with fail
 refine (C1.out _ _ (by go_simp)).mono ?_
 rintro e w1 ⟨rfl, b1⟩
 have B1 := Lib.hid b1
 clear b1
 go_wp2_with fail
 go_ret
 exact ⟨rfl, Kit.chain (Hear.boxed ..) B1.out⟩
set_option maxHeartbeats 400000 in
theorem Hear.match_calls (a b : Fr) (i : Int) (w : World) :
  Calls Tryz.prog 149 #[.agg #[.int .i64 a.k, .int .i64 a.i, .int .i64 b.k, .int .i64 b.i], .int .i64 i] w
   fun e w' => e = .returned (.bool (Wm.match_ i a b)) ∧ Below w.heap.size w w' := by
 have c1 := fun T => Hear.contains_calls (some ⟨w.heap.size, 0, none⟩) 2 2 [a, b] ⟨2, i⟩ _ (Hear.frames a b w T) (by omega)
 have hm : ([a, b].any fun x => ((⟨2, i⟩ : Fr).k == x.k && (⟨2, i⟩ : Fr).i == x.i)) = Wm.match_ i a b := by
  unfold Wm.match_
  simp only [List.any_cons, List.any_nil, Bool.or_false]
  have hc : ∀ x y : Int, (x == y) = (y == x) := fun x y => BEq.comm
  rw [hc 2 a.k, hc i a.i, hc 2 b.k, hc i b.i]
 rw [hm] at c1
 clear hm
 generalize Wm.match_ i a b = m at *
 obtain ⟨ak, ai⟩ := a
 obtain ⟨bk, bi⟩ := b
 go_enter Tryz.func149, Tryz.ntmps149
 go_wp2_with fail
 refine (c1 _).mono ?_
 rintro e w1 ⟨rfl, b1⟩
 have B1 := Lib.hid b1
 clear b1
 go_wp2_with fail
 go_ret
 exact ⟨rfl, Kit.chain ((Below.refl _ _).alloc (Nat.le_refl _) _) B1.out⟩
end Go.Proofs.YtgiojagdmglinaaGreatDoor
