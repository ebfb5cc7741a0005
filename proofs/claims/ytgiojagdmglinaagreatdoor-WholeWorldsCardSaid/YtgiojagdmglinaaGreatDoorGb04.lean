/-
  Part 4 of a merged text.
-/
import Derived.Test.YtgiojagdmglinaaGreatDoorGb03
import Derived.Test.YtgiojagdmglinaaGreatDoorGb02
import Derived.Test.YtgiojagdmglinaaGreatDoorGb01
import Derived.WideShapes
set_option linter.unusedVariables false
set_option linter.unusedSimpArgs false
set_option maxRecDepth 100000
namespace Go.Proofs.YtgiojagdmglinaaGreatDoor
open Go.RowKit
namespace Cf
set_option maxHeartbeats 400000 in
theorem right_calls (n : Int) (w : World) (h3 : 3 ≤ n) (h8 : n ≤ 8) : Calls Tryz.prog 14 #[.int .i64 n] w fun e w' => e = .returned (.bool true) ∧ w = w' := by
 have g1 : decide (n ≥ 3) = true := decide_eq_true h3
 have g2 : decide (n ≤ 8) = true := decide_eq_true h8
 go_enter Tryz.func14, Tryz.ntmps14
 go_wp2_with fail
 go_ret
 exact ⟨rfl, rfl⟩
def table : Array MapEntry := #[⟨(.string ⟨#[98, 108, 111, 99, 107]⟩), .int .i64 2, 0⟩, ⟨(.string ⟨#[119, 97, 116, 99, 104]⟩), .int .i64 8, 1⟩, ⟨(.string ⟨#[108, 97, 116, 101, 114]⟩), .int .i64 3, 2⟩, ⟨(.string ⟨#[115, 116, 97, 114, 116]⟩), .int .i64 40, 3⟩, ⟨(.string ⟨#[115, 116, 97, 98, 108, 101]⟩), .int .i64 96, 4⟩, ⟨(.string ⟨#[108, 105, 115, 116, 101, 110]⟩), .int .i64 4, 5⟩, ⟨(.string ⟨#[99, 111, 108, 100]⟩), .int .i64 2, 6⟩]
theorem tMap : Tryz.prog.underlying 121 = some (.map 9 3) := by kernel_rfl
theorem tStr : Tryz.prog.underlying 9 = some .string := by kernel_rfl
set_option maxHeartbeats 400000 in
theorem rounds_calls (w : World) : Calls Tryz.prog 75 #[] w fun e w' => e = .returned (.map (some w.heap.size)) ∧ w' = w.alloc (.map table 7) := by
 have hmm := @run_makeMap Tryz.prog
 have i0 : (Instr.mapUpdate 121 (.map (some w.heap.size)) (.string ⟨#[98, 108, 111, 99, 107]⟩) (.int .i64 2)).run Tryz.prog (w.alloc (.map #[] 0)) = .ok () (w.alloc (.map #[⟨(.string ⟨#[98, 108, 111, 99, 107]⟩), .int .i64 2, 0⟩] 1)) := Mp.insert_new tMap tStr w #[] 0 _ _ trivial rfl
 have i1 : (Instr.mapUpdate 121 (.map (some w.heap.size)) (.string ⟨#[119, 97, 116, 99, 104]⟩) (.int .i64 8)).run Tryz.prog (w.alloc (.map #[⟨(.string ⟨#[98, 108, 111, 99, 107]⟩), .int .i64 2, 0⟩] 1)) = .ok () (w.alloc (.map #[⟨(.string ⟨#[98, 108, 111, 99, 107]⟩), .int .i64 2, 0⟩, ⟨(.string ⟨#[119, 97, 116, 99, 104]⟩), .int .i64 8, 1⟩] 2)) := Mp.insert_new tMap tStr w #[⟨(.string ⟨#[98, 108, 111, 99, 107]⟩), .int .i64 2, 0⟩] 1 _ _ trivial rfl
 have i2 : (Instr.mapUpdate 121 (.map (some w.heap.size)) (.string ⟨#[108, 97, 116, 101, 114]⟩) (.int .i64 3)).run Tryz.prog (w.alloc (.map #[⟨(.string ⟨#[98, 108, 111, 99, 107]⟩), .int .i64 2, 0⟩, ⟨(.string ⟨#[119, 97, 116, 99, 104]⟩), .int .i64 8, 1⟩] 2)) = .ok () (w.alloc (.map #[⟨(.string ⟨#[98, 108, 111, 99, 107]⟩), .int .i64 2, 0⟩, ⟨(.string ⟨#[119, 97, 116, 99, 104]⟩), .int .i64 8, 1⟩, ⟨(.string ⟨#[108, 97, 116, 101, 114]⟩), .int .i64 3, 2⟩] 3)) := Mp.insert_new tMap tStr w #[⟨(.string ⟨#[98, 108, 111, 99, 107]⟩), .int .i64 2, 0⟩, ⟨(.string ⟨#[119, 97, 116, 99, 104]⟩), .int .i64 8, 1⟩] 2 _ _ trivial rfl
 have i3 : (Instr.mapUpdate 121 (.map (some w.heap.size)) (.string ⟨#[115, 116, 97, 114, 116]⟩) (.int .i64 40)).run Tryz.prog (w.alloc (.map #[⟨(.string ⟨#[98, 108, 111, 99, 107]⟩), .int .i64 2, 0⟩, ⟨(.string ⟨#[119, 97, 116, 99, 104]⟩), .int .i64 8, 1⟩, ⟨(.string ⟨#[108, 97, 116, 101, 114]⟩), .int .i64 3, 2⟩] 3)) = .ok () (w.alloc (.map #[⟨(.string ⟨#[98, 108, 111, 99, 107]⟩), .int .i64 2, 0⟩, ⟨(.string ⟨#[119, 97, 116, 99, 104]⟩), .int .i64 8, 1⟩, ⟨(.string ⟨#[108, 97, 116, 101, 114]⟩), .int .i64 3, 2⟩, ⟨(.string ⟨#[115, 116, 97, 114, 116]⟩), .int .i64 40, 3⟩] 4)) := Mp.insert_new tMap tStr w #[⟨(.string ⟨#[98, 108, 111, 99, 107]⟩), .int .i64 2, 0⟩, ⟨(.string ⟨#[119, 97, 116, 99, 104]⟩), .int .i64 8, 1⟩, ⟨(.string ⟨#[108, 97, 116, 101, 114]⟩), .int .i64 3, 2⟩] 3 _ _ trivial rfl
 have i4 : (Instr.mapUpdate 121 (.map (some w.heap.size)) (.string ⟨#[115, 116, 97, 98, 108, 101]⟩) (.int .i64 96)).run Tryz.prog (w.alloc (.map #[⟨(.string ⟨#[98, 108, 111, 99, 107]⟩), .int .i64 2, 0⟩, ⟨(.string ⟨#[119, 97, 116, 99, 104]⟩), .int .i64 8, 1⟩, ⟨(.string ⟨#[108, 97, 116, 101, 114]⟩), .int .i64 3, 2⟩, ⟨(.string ⟨#[115, 116, 97, 114, 116]⟩), .int .i64 40, 3⟩] 4)) = .ok () (w.alloc (.map #[⟨(.string ⟨#[98, 108, 111, 99, 107]⟩), .int .i64 2, 0⟩, ⟨(.string ⟨#[119, 97, 116, 99, 104]⟩), .int .i64 8, 1⟩, ⟨(.string ⟨#[108, 97, 116, 101, 114]⟩), .int .i64 3, 2⟩, ⟨(.string ⟨#[115, 116, 97, 114, 116]⟩), .int .i64 40, 3⟩, ⟨(.string ⟨#[115, 116, 97, 98, 108, 101]⟩), .int .i64 96, 4⟩] 5)) := Mp.insert_new tMap tStr w #[⟨(.string ⟨#[98, 108, 111, 99, 107]⟩), .int .i64 2, 0⟩, ⟨(.string ⟨#[119, 97, 116, 99, 104]⟩), .int .i64 8, 1⟩, ⟨(.string ⟨#[108, 97, 116, 101, 114]⟩), .int .i64 3, 2⟩, ⟨(.string ⟨#[115, 116, 97, 114, 116]⟩), .int .i64 40, 3⟩] 4 _ _ trivial rfl
 have i5 : (Instr.mapUpdate 121 (.map (some w.heap.size)) (.string ⟨#[108, 105, 115, 116, 101, 110]⟩) (.int .i64 4)).run Tryz.prog (w.alloc (.map #[⟨(.string ⟨#[98, 108, 111, 99, 107]⟩), .int .i64 2, 0⟩, ⟨(.string ⟨#[119, 97, 116, 99, 104]⟩), .int .i64 8, 1⟩, ⟨(.string ⟨#[108, 97, 116, 101, 114]⟩), .int .i64 3, 2⟩, ⟨(.string ⟨#[115, 116, 97, 114, 116]⟩), .int .i64 40, 3⟩, ⟨(.string ⟨#[115, 116, 97, 98, 108, 101]⟩), .int .i64 96, 4⟩] 5)) = .ok () (w.alloc (.map #[⟨(.string ⟨#[98, 108, 111, 99, 107]⟩), .int .i64 2, 0⟩, ⟨(.string ⟨#[119, 97, 116, 99, 104]⟩), .int .i64 8, 1⟩, ⟨(.string ⟨#[108, 97, 116, 101, 114]⟩), .int .i64 3, 2⟩, ⟨(.string ⟨#[115, 116, 97, 114, 116]⟩), .int .i64 40, 3⟩, ⟨(.string ⟨#[115, 116, 97, 98, 108, 101]⟩), .int .i64 96, 4⟩, ⟨(.string ⟨#[108, 105, 115, 116, 101, 110]⟩), .int .i64 4, 5⟩] 6)) := Mp.insert_new tMap tStr w #[⟨(.string ⟨#[98, 108, 111, 99, 107]⟩), .int .i64 2, 0⟩, ⟨(.string ⟨#[119, 97, 116, 99, 104]⟩), .int .i64 8, 1⟩, ⟨(.string ⟨#[108, 97, 116, 101, 114]⟩), .int .i64 3, 2⟩, ⟨(.string ⟨#[115, 116, 97, 114, 116]⟩), .int .i64 40, 3⟩, ⟨(.string ⟨#[115, 116, 97, 98, 108, 101]⟩), .int .i64 96, 4⟩] 5 _ _ trivial rfl
 have i6 : (Instr.mapUpdate 121 (.map (some w.heap.size)) (.string ⟨#[99, 111, 108, 100]⟩) (.int .i64 2)).run Tryz.prog (w.alloc (.map #[⟨(.string ⟨#[98, 108, 111, 99, 107]⟩), .int .i64 2, 0⟩, ⟨(.string ⟨#[119, 97, 116, 99, 104]⟩), .int .i64 8, 1⟩, ⟨(.string ⟨#[108, 97, 116, 101, 114]⟩), .int .i64 3, 2⟩, ⟨(.string ⟨#[115, 116, 97, 114, 116]⟩), .int .i64 40, 3⟩, ⟨(.string ⟨#[115, 116, 97, 98, 108, 101]⟩), .int .i64 96, 4⟩, ⟨(.string ⟨#[108, 105, 115, 116, 101, 110]⟩), .int .i64 4, 5⟩] 6)) = .ok () (w.alloc (.map #[⟨(.string ⟨#[98, 108, 111, 99, 107]⟩), .int .i64 2, 0⟩, ⟨(.string ⟨#[119, 97, 116, 99, 104]⟩), .int .i64 8, 1⟩, ⟨(.string ⟨#[108, 97, 116, 101, 114]⟩), .int .i64 3, 2⟩, ⟨(.string ⟨#[115, 116, 97, 114, 116]⟩), .int .i64 40, 3⟩, ⟨(.string ⟨#[115, 116, 97, 98, 108, 101]⟩), .int .i64 96, 4⟩, ⟨(.string ⟨#[108, 105, 115, 116, 101, 110]⟩), .int .i64 4, 5⟩, ⟨(.string ⟨#[99, 111, 108, 100]⟩), .int .i64 2, 6⟩] 7)) := Mp.insert_new tMap tStr w #[⟨(.string ⟨#[98, 108, 111, 99, 107]⟩), .int .i64 2, 0⟩, ⟨(.string ⟨#[119, 97, 116, 99, 104]⟩), .int .i64 8, 1⟩, ⟨(.string ⟨#[108, 97, 116, 101, 114]⟩), .int .i64 3, 2⟩, ⟨(.string ⟨#[115, 116, 97, 114, 116]⟩), .int .i64 40, 3⟩, ⟨(.string ⟨#[115, 116, 97, 98, 108, 101]⟩), .int .i64 96, 4⟩, ⟨(.string ⟨#[108, 105, 115, 116, 101, 110]⟩), .int .i64 4, 5⟩] 6 _ _ trivial rfl
 go_enter Tryz.func75, Tryz.ntmps75
 go_wp2_with fail
 go_ret
 exact ⟨rfl, rfl⟩
end Cf
end Go.Proofs.YtgiojagdmglinaaGreatDoor
namespace Go.Proofs.YtgiojagdmglinaaGreatDoor
open Go.RowKit
namespace Flt
def may (n c v : Int) : Bool := decide (0 ≤ v) && decide (v < manyOf n c)
set_option maxHeartbeats 1000000 in
theorem right_calls (n c v : Int) (w : World) (h3 : 3 ≤ n) (h8 : n ≤ 8) :
  Calls Tryz.prog 55 #[.int .i64 n, .agg #[.int .i64 c, .int .i64 v]] w fun e w' => e = .returned (.bool (may n c v)) ∧ Below w.heap.size w w' := by
 have kr := fun W => Cf.right_calls n W h3 h8
 have km := fun W => many_calls n c W
 have KR := Lib.hid kr
 have KM := Lib.hid km
 clear kr km
 unfold may
 generalize manyOf n c = m at *
 by_cases h0 : 0 ≤ v
 ·have g0 : decide (v ≥ 0) = true := decide_eq_true h0
  have E0 : Hid (decide (0 ≤ v) = true) := Lib.hid (decide_eq_true h0)
  clear h0
  go_enter Tryz.func55, Tryz.ntmps55
  go_wp2_with fail
  have c0 : (w.alloc (.cells #[.int .i64 c, .int .i64 v] 24)).cell? ⟨w.heap.size, 0, none⟩ = some (.int .i64 c) := World.cell?_alloc_new ..
  have c1 : (w.alloc (.cells #[.int .i64 c, .int .i64 v] 24)).cell? ⟨w.heap.size, 1, none⟩ = some (.int .i64 v) := World.cell?_alloc_new ..
  refine wp_region_held_drew (S := (fun w' => w'.cell? ⟨w.heap.size, 0, none⟩ = some (.int .i64 c) ∧ w'.cell? ⟨w.heap.size, 1, none⟩ = some (.int .i64 v))) (by kernel_rfl) ?_ (fun hHeld => ?_)
  ·go_keep
  refine Rgn.tk 0 rfl ?_
  try simp only [Act.put, Rgn.a, Rgn.b, Rgn.c]
  refine Rgn.one 1 rfl (by kernel_rfl) (fun K hK => ?_)
  go_simp
  refine (KR.out _).mono ?_
  rintro e wn ⟨rfl, rfl⟩
  go_simp
  refine hK.out _ _ ?_ (fun hHeld => ?_)
  ·go_keep
  clear hK K
  try simp only [Act.put, Rgn.a, Rgn.b, Rgn.c]
  refine Rgn.tk 2 rfl ?_
  try simp only [Act.put, Rgn.a, Rgn.b, Rgn.c]
  refine Rgn.tk 3 rfl ?_
  try simp only [Act.put, Rgn.a, Rgn.b, Rgn.c]
  refine Rgn.tk 4 rfl ?_
  try simp only [Act.put, Rgn.a, Rgn.b, Rgn.c]
  refine Rgn.tk 5 rfl ?_
  try simp only [Act.put, Rgn.a, Rgn.b, Rgn.c]
  refine Rgn.tk 6 rfl ?_
  try simp only [Act.put, Rgn.a, Rgn.b, Rgn.c]
  refine Rgn.tk 7 rfl ?_
  try simp only [Act.put, Rgn.a, Rgn.b, Rgn.c]
  refine Rgn.tk 8 rfl ?_
  try simp only [Act.put, Rgn.a, Rgn.b, Rgn.c]
  refine Rgn.tk 9 rfl ?_
  try simp only [Act.put, Rgn.a, Rgn.b, Rgn.c]
  refine Rgn.tk 10 rfl ?_
  try simp only [Act.put, Rgn.a, Rgn.b, Rgn.c]
  refine Rgn.tk 11 rfl ?_
  try simp only [Act.put, Rgn.a, Rgn.b, Rgn.c]
  refine Rgn.tk 12 rfl ?_
  try simp only [Act.put, Rgn.a, Rgn.b, Rgn.c]
  refine Rgn.one 13 rfl (by kernel_rfl) (fun K hK => ?_)
  go_simp
  refine (KM.out _).mono ?_
  rintro e wn ⟨rfl, rfl⟩
  go_simp
  refine hK.out _ _ ?_ (fun hHeld => ?_)
  ·go_keep
  clear hK K
  try simp only [Act.put, Rgn.a, Rgn.b, Rgn.c]
  refine Rgn.tk 14 rfl ?_
  try simp only [Act.put, Rgn.a, Rgn.b, Rgn.c]
  refine Rgn.tk 15 rfl ?_
  try simp only [Act.put, Rgn.a, Rgn.b, Rgn.c]
  refine Rgn.tk 16 rfl ?_
  try simp only [Act.put, Rgn.a, Rgn.b, Rgn.c]
  refine wpAnyH_done (by kernel_rfl) ?_ _
  go_wp2_with fail
  go_ret
  exact ⟨by rw [E0.out]; rfl, ((Below.refl _ _).alloc (Nat.le_refl _) _).drew⟩
 ·have g0 : decide (v ≥ 0) = false := decide_eq_false h0
  have E0 : Hid (decide (0 ≤ v) = false) := Lib.hid (decide_eq_false h0)
  clear h0
  go_enter Tryz.func55, Tryz.ntmps55
  go_wp2_with fail
  have c0 : (w.alloc (.cells #[.int .i64 c, .int .i64 v] 24)).cell? ⟨w.heap.size, 0, none⟩ = some (.int .i64 c) := World.cell?_alloc_new ..
  have c1 : (w.alloc (.cells #[.int .i64 c, .int .i64 v] 24)).cell? ⟨w.heap.size, 1, none⟩ = some (.int .i64 v) := World.cell?_alloc_new ..
  refine wp_region_held_drew (S := (fun w' => w'.cell? ⟨w.heap.size, 0, none⟩ = some (.int .i64 c) ∧ w'.cell? ⟨w.heap.size, 1, none⟩ = some (.int .i64 v))) (by kernel_rfl) ?_ (fun hHeld => ?_)
  ·go_keep
  refine Rgn.tk 0 rfl ?_
  try simp only [Act.put, Rgn.a, Rgn.b, Rgn.c]
  refine Rgn.one 1 rfl (by kernel_rfl) (fun K hK => ?_)
  go_simp
  refine (KR.out _).mono ?_
  rintro e wn ⟨rfl, rfl⟩
  go_simp
  refine hK.out _ _ ?_ (fun hHeld => ?_)
  ·go_keep
  clear hK K
  try simp only [Act.put, Rgn.a, Rgn.b, Rgn.c]
  refine Rgn.tk 2 rfl ?_
  try simp only [Act.put, Rgn.a, Rgn.b, Rgn.c]
  refine Rgn.tk 3 rfl ?_
  try simp only [Act.put, Rgn.a, Rgn.b, Rgn.c]
  refine Rgn.tk 4 rfl ?_
  try simp only [Act.put, Rgn.a, Rgn.b, Rgn.c]
  refine Rgn.tk 5 rfl ?_
  try simp only [Act.put, Rgn.a, Rgn.b, Rgn.c]
  refine Rgn.tk 6 rfl ?_
  try simp only [Act.put, Rgn.a, Rgn.b, Rgn.c]
  refine Rgn.tk 7 rfl ?_
  try simp only [Act.put, Rgn.a, Rgn.b, Rgn.c]
  refine Rgn.sk 8 rfl ?_
  try simp only [Act.put, Rgn.a, Rgn.b, Rgn.c]
  refine Rgn.sk 9 rfl ?_
  try simp only [Act.put, Rgn.a, Rgn.b, Rgn.c]
  refine Rgn.sk 10 rfl ?_
  try simp only [Act.put, Rgn.a, Rgn.b, Rgn.c]
  refine Rgn.sk 11 rfl ?_
  try simp only [Act.put, Rgn.a, Rgn.b, Rgn.c]
  refine Rgn.sk 12 rfl ?_
  try simp only [Act.put, Rgn.a, Rgn.b, Rgn.c]
  refine Rgn.sk 13 rfl ?_
  try simp only [Act.put, Rgn.a, Rgn.b, Rgn.c]
  refine Rgn.sk 14 rfl ?_
  try simp only [Act.put, Rgn.a, Rgn.b, Rgn.c]
  refine Rgn.tk 15 rfl ?_
  try simp only [Act.put, Rgn.a, Rgn.b, Rgn.c]
  refine Rgn.tk 16 rfl ?_
  try simp only [Act.put, Rgn.a, Rgn.b, Rgn.c]
  refine wpAnyH_done (by kernel_rfl) ?_ _
  go_wp2_with fail
  go_ret
  exact ⟨by rw [E0.out]; rfl, ((Below.refl _ _).alloc (Nat.le_refl _) _).drew⟩
set_option maxHeartbeats 1000000 in
theorem clean_calls (n c v : Int) (w : World) (h3 : 3 ≤ n) (h8 : n ≤ 8) :
  Calls Tryz.prog 30 #[.int .i64 n, .agg #[.int .i64 c, .int .i64 v]] w fun e w' => e = .returned (.tuple #[.agg #[.int .i64 (if may n c v then c else 0), .int .i64 (if may n c v then v else 0)], .int .i64 0]) ∧ Below w.heap.size w w' := by
 have kr := fun W => Cf.right_calls n W h3 h8
 have kf := fun W => right_calls n c v W h3 h8
 generalize may n c v = q at *
 have KR := Lib.hid kr
 have KF := Lib.hid kf
 clear kr kf
 cases q with
 | true =>
  simp only [if_true]
  go_enter Tryz.func30, Tryz.ntmps30
  go_wp2_with fail
  refine (KR.out _).mono ?_
  rintro e w1 ⟨rfl, rfl⟩
  go_wp2_with fail
  refine (KF.out _).mono ?_
  rintro e w2 ⟨rfl, b⟩
  have r0 := ((Kit.Row.new w #[.int .i64 c, .int .i64 v] 24).alloc (.cells #[.int .i64 0, .int .i64 0] 24)).below b
  have r1 := (Kit.Row.newAt (w.alloc (.cells #[.int .i64 c, .int .i64 v] 24)) #[.int .i64 0, .int .i64 0] 24 (w.heap.size + 1) (by simp)).below b
  have HB := Lib.hid (Kit.chain (Kit.alloc2 ..) b)
  clear b
  have c0 := r0.at_ 0 (.int .i64 c) rfl
  have c1 := r0.at_ 1 (.int .i64 v) rfl
  have g0 := r1.at_ 0 (.int .i64 0) rfl
  have g1 := r1.at_ 1 (.int .i64 0) rfl
  have f0 := r1.free 0 (by simp)
  have f1 := r1.free 1 (by simp)
  have hlt := r1.lt
  have R1 := Lib.hid r1
  clear r0 r1
  go_wp2_with fail
  have r5 := (R1.out.set 0 (.int .i64 c) (by simp)).set 1 (.int .i64 v) (by simp)
  have p0 := r5.at_ 0 (.int .i64 c) rfl
  have p1 := r5.at_ 1 (.int .i64 v) rfl
  clear r5
  refine bodyPost_ret (v := .tuple #[.agg #[.int .i64 c, .int .i64 v], .int .i64 0]) (by simp [results, Tryz.results30, go_sem, p0, p1, hlt]) rfl ⟨rfl, ?_⟩
  exact (HB.out.setCell (by simp) _).setCell (by simp) _
 | false =>
  simp only [Bool.false_eq_true, if_false]
  go_enter Tryz.func30, Tryz.ntmps30
  go_wp2_with fail
  refine (KR.out _).mono ?_
  rintro e w1 ⟨rfl, rfl⟩
  go_wp2_with fail
  refine (KF.out _).mono ?_
  rintro e w2 ⟨rfl, b⟩
  have r0 := ((Kit.Row.new w #[.int .i64 c, .int .i64 v] 24).alloc (.cells #[.int .i64 0, .int .i64 0] 24)).below b
  have r1 := (Kit.Row.newAt (w.alloc (.cells #[.int .i64 c, .int .i64 v] 24)) #[.int .i64 0, .int .i64 0] 24 (w.heap.size + 1) (by simp)).below b
  have HB := Lib.hid (Kit.chain (Kit.alloc2 ..) b)
  clear b
  have c0 := r0.at_ 0 (.int .i64 c) rfl
  have c1 := r0.at_ 1 (.int .i64 v) rfl
  have g0 := r1.at_ 0 (.int .i64 0) rfl
  have g1 := r1.at_ 1 (.int .i64 0) rfl
  have f0 := r1.free 0 (by simp)
  have f1 := r1.free 1 (by simp)
  have hlt := r1.lt
  have R1 := Lib.hid r1
  clear r0 r1
  go_wp2_with fail
  have r5 := (R1.out.set 0 (.int .i64 0) (by simp)).set 1 (.int .i64 0) (by simp)
  have p0 := r5.at_ 0 (.int .i64 0) rfl
  have p1 := r5.at_ 1 (.int .i64 0) rfl
  clear r5
  refine bodyPost_ret (v := .tuple #[.agg #[.int .i64 0, .int .i64 0], .int .i64 0]) (by simp [results, Tryz.results30, go_sem, p0, p1, hlt]) rfl ⟨rfl, ?_⟩
  exact (HB.out.setCell (by simp) _).setCell (by simp) _
set_option maxHeartbeats 1000000 in
theorem on_calls (A : Option Addr) (n cap i : Nat) (l : List Int) (now : Int) (w : World) (hl : Whole w A n l) (hi : i < n) (hn : n ≤ 1000) :
  Calls Tryz.prog 100 #[.slice A n cap, .int .i64 i, .int .i64 now] w fun e w' => e = .returned (.bool (decide (l.getD i 0 ≤ now))) ∧ w = w' := by
 obtain ⟨b, off, rfl, hb, m0⟩ := hl.at_ hi
 generalize l.getD i 0 = x at *
 have g0 : decide ((i : Int) ≥ 0) = true := decide_eq_true (by omega)
 have g1 : decide ((i : Int) < (n : Int)) = true := decide_eq_true (by omega)
 clear hl
 go_enter Tryz.func100, Tryz.ntmps100
 go_wp2_with fail
 all_goals
  go_ret
  exact ⟨by simp_all, rfl⟩
end Flt
end Go.Proofs.YtgiojagdmglinaaGreatDoor
namespace Go.Proofs.YtgiojagdmglinaaGreatDoor
namespace Wm
theorem up_of {c m : Int} (h0 : 0 ≤ c) (h : c ≤ m) : up c m = if c = m then m else c + 1 := by
 unfold up
 rw [show max c 0 = c by omega]
 split <;> split <;> omega
theorem two_in {n : Nat} {P : Nat → Bool} {p q : Nat} (hp : p < n) (hq : q < n) (hne : p ≠ q) (h1 : P p = true) (h2 : P q = true) : 2 ≤ ((List.range n).filter P).length := by
 have m1 : p ∈ (List.range n).filter P := List.mem_filter.2 ⟨List.mem_range.2 hp, h1⟩
 have m2 : q ∈ (List.range n).filter P := List.mem_filter.2 ⟨List.mem_range.2 hq, h2⟩
 generalize (List.range n).filter P = l at *
 match l, m1, m2 with
 | [a], m1, m2 => simp at m1 m2; omega
 | a :: b :: l, _, _ => simp
theorem one_in {n : Nat} {P : Nat → Bool} (q : Nat) (h : ∀ p, p < n → P p = true → p = q) : ((List.range n).filter P).length ≤ 1 := by
 have hn : ((List.range n).filter P).Nodup := List.Pairwise.filter _ List.nodup_range
 have hm : ∀ p ∈ (List.range n).filter P, p = q := fun p hp => by
  obtain ⟨h1, h2⟩ := List.mem_filter.1 hp
  exact h p (List.mem_range.1 h1) h2
 generalize (List.range n).filter P = l at *
 match l, hn, hm with
 | [], _, _ => simp
 | [a], _, _ => simp
 | a :: b :: l, hn, hm =>
  have h1 := hm a (by simp)
  have h2 := hm b (by simp)
  simp at hn
  omega
theorem foldl_max (l : List Nat) : ∀ m : Nat, (m ≤ l.foldl max m ∧ ∀ x ∈ l, x ≤ l.foldl max m) ∧ (l.foldl max m = m ∨ l.foldl max m ∈ l) := by
 induction l with
 | nil => intro m; simp
 | cons a l ih =>
  intro m
  obtain ⟨⟨h1, h2⟩, h3⟩ := ih (max m a)
  rw [List.foldl_cons]
  refine ⟨⟨by omega, fun x hx => ?_⟩, ?_⟩
  ·rcases List.mem_cons.1 hx with rfl | hx
   ·omega
   ·exact h2 x hx
  ·rcases h3 with h3 | h3
   ·rw [h3]
    by_cases c : m ≤ a
    ·right; rw [show max m a = a by omega]; simp
    ·left; omega
   ·right; exact List.mem_cons_of_mem _ h3
theorem best_spec (n : Nat) (h : Hb) (hn : 0 < n) : (best n h).1 < n ∧ (best n h).2 = votes n h (best n h).1 ∧ ∀ v, v < n → votes n h v ≤ (best n h).2 := by
 obtain ⟨⟨_, h2⟩, h3⟩ := foldl_max (tally n h) 0
 have hall : ∀ v, v < n → votes n h v ∈ tally n h := fun v hv => List.mem_map.2 ⟨v, List.mem_range.2 hv, rfl⟩
 have hin : (tally n h).foldl max 0 ∈ tally n h := by
  rcases h3 with h3 | h3
  ·have := h2 _ (hall 0 hn)
   have e : votes n h 0 = (tally n h).foldl max 0 := by omega
   rw [← e]
   exact hall 0 hn
  ·exact h3
 have hlt := List.idxOf_lt_length_of_mem hin
 have hlen : (tally n h).length = n := by simp [tally]
 have hget : (tally n h)[(tally n h).idxOf ((tally n h).foldl max 0)] = (tally n h).foldl max 0 := List.getElem_idxOf hlt
 refine ⟨?_, ?_, fun v hv => h2 _ (hall v hv)⟩
 ·show (tally n h).idxOf _ < n
  omega
 ·show (tally n h).foldl max 0 = votes n h ((tally n h).idxOf ((tally n h).foldl max 0))
  have hx : ∀ (k : Nat) (hk : k < (tally n h).length), (tally n h)[k] = votes n h k := by intro k hk; simp [tally]
  rw [← hx _ hlt, hget]
theorem best_two (n : Nat) (h : Hb) (hn : 0 < n) (s : Nat) (hs : s < n) (h2 : 2 ≤ votes n h s) (hu : ∀ v, v < n → v ≠ s → votes n h v ≤ 1) : (best n h).1 = s ∧ 2 ≤ (best n h).2 := by
 obtain ⟨a, b, c⟩ := best_spec n h hn
 have := c s hs
 refine ⟨?_, by omega⟩
 by_cases e : (best n h).1 = s
 ·exact e
 ·have := hu _ a e
  omega
theorem best_one (n : Nat) (h : Hb) (hn : 0 < n) (hu : ∀ v, v < n → votes n h v ≤ 1) : ¬ 2 ≤ (best n h).2 := by
 obtain ⟨a, b, c⟩ := best_spec n h hn
 have := hu _ a
 omega
def act1 (n : Nat) (x : Nd) (f : Fr) : Nd := act n x f f
def Hears (f a b : Fr) : Prop := (a = f ∨ a = Fr.none) ∧ (b = f ∨ b = Fr.none) ∧ (a = f ∨ b = f)
theorem act_hears (n : Nat) (x : Nd) {f a b : Fr} (h : Hears f a b) : act n x a b = act1 n x f := by
 obtain ⟨ha, hb, hc⟩ := h
 have i0 : info a b = info f f := by
  rcases ha with rfl | rfl <;> rcases hb with rfl | rfl <;> rcases hc with hc | hc <;> first | rfl | (subst hc; rfl) | (rw [← hc]; rfl) | (unfold info hears; simp [Fr.none]; try (split <;> simp_all))
 have o0 : other x.id a b = other x.id f f := by
  rcases ha with rfl | rfl <;> rcases hb with rfl | rfl <;> rcases hc with hc | hc <;> first | rfl | (subst hc; rfl) | (rw [← hc]; rfl) | (unfold other hears; simp [Fr.none]; try (split <;> simp_all))
 have w0 : wrong x.ps a b = wrong x.ps f f := by
  rcases ha with rfl | rfl <;> rcases hb with rfl | rfl <;> rcases hc with hc | hc <;> first | rfl | (subst hc; rfl) | (rw [← hc]; rfl) | (unfold wrong; simp [Fr.none])
 have m0 : match_ x.ps a b = match_ x.ps f f := by
  rcases ha with rfl | rfl <;> rcases hb with rfl | rfl <;> rcases hc with hc | hc <;> first | rfl | (subst hc; rfl) | (rw [← hc]; rfl) | (unfold match_; simp [Fr.none])
 unfold act1 act listen cold active
 rw [i0, o0, w0, m0]
theorem act_info (n : Nat) (x : Nd) (j : Int) (h : x.md = 1 ∨ x.md = 2) : act1 n x ⟨2, j⟩ = join n x j := by
 rcases h with h | h <;> simp [act1, act, listen, cold, info, hears, h]
theorem act_match (n : Nat) (x : Nd) (h : x.md = 3) (hn : 0 < n) : act1 n x ⟨2, x.ps⟩ = ⟨x.id, 3, 0, nx n x.ps⟩ := by
 simp [act1, act, active, wrong, other, hears, match_, h]
 omega
theorem act_quiet (n : Nat) (x : Nd) (h : x.md = 3) (h0 : 0 ≤ x.ct) (hc : x.ct + 1 < 8 * n) (hn : n ≤ 8) : act1 n x Fr.none = ⟨x.id, 3, x.ct + 1, nx n x.ps⟩ := by
 have hu : up x.ct mostCount = x.ct + 1 := by rw [up_of h0 (by unfold mostCount; omega), if_neg (by unfold mostCount; omega)]
 simp [act1, act, active, wrong, other, hears, match_, h, Fr.none, hu]
 omega
theorem act_rest (n : Nat) (x : Nd) (h : x.md = 1 ∨ x.md = 2) : (act1 n x Fr.none).md = 1 ∨ (act1 n x Fr.none).md = 2 := by
 cases hc : cs n x <;> rcases h with h | h <;> simp [act1, act, listen, cold, info, other, hears, h, hc, Fr.none, become, later]
theorem act_cs (n : Nat) (x : Nd) (j : Int) (h : x.md = 1 ∨ x.md = 2) : ((act1 n x ⟨1, j⟩).md = 1 ∨ (act1 n x ⟨1, j⟩).md = 2) ∨ (x.id ≠ j ∧ act1 n x ⟨1, j⟩ = join n x j) := by
 rcases h with h | h
 ·left
  cases hc : cs n x <;> by_cases e : j = x.id <;> simp [act1, act, listen, info, other, hears, h, hc, e, become, later]
 ·by_cases e : j = x.id
  ·left
   cases hc : cs n x <;> simp [act1, act, cold, info, other, hears, h, e, hc, become, later]
  ·right
   refine ⟨fun h => e h.symm, ?_⟩
   simp [act1, act, cold, info, other, hears, h, e]
theorem say_info {n : Nat} {x : Nd} (h : (say n x).k = 2) : x.md = 3 ∧ x.ps = x.id ∧ say n x = ⟨2, x.id⟩ := by
 unfold say at h ⊢
 split
 ·rename_i h1; exact ⟨h1.1, h1.2, rfl⟩
 ·rename_i h1
  rw [if_neg h1] at h
  split at h <;> simp [Fr.none] at h
theorem say_own {n : Nat} {x : Nd} (h : x.md = 3) (h2 : x.ps = x.id) : say n x = ⟨2, x.id⟩ := by unfold say; rw [if_pos ⟨h, h2⟩]
end Wm
end Go.Proofs.YtgiojagdmglinaaGreatDoor
namespace Go.Proofs.YtgiojagdmglinaaGreatDoor
open Go.RowKit
def Strs (w : World) (A : Option Addr) (n : Nat) (l : List ByteArray) : Prop := Lies w A n 1 (l.map fun s => [Value.string s])
theorem Strs.below {w W : World} {A : Option Addr} {n : Nat} {l : List ByteArray} (h : Strs w A n l) (hb : Below w.heap.size w W) : Strs W A n l := Lies.below h hb
theorem Strs.len {w : World} {A : Option Addr} {n : Nat} {l : List ByteArray} (h : Strs w A n l) : l.length = n := by have := Lies.len h; simpa using this
theorem Strs.row {w : World} {A : Option Addr} {n : Nat} {l : List ByteArray} (h : Strs w A n l) (hn : 0 < n) : ∃ b off, A = some ⟨b, off, none⟩ ∧ b < w.heap.size ∧
  ∀ j s, l[j]? = some s → w.cell? ⟨b, off + j, none⟩ = some (.string s) := by
 obtain ⟨b, off, e, hlt, hc⟩ := Lies.at_ h hn
 refine ⟨b, off, e, hlt, fun j s hj => ?_⟩
 have hj' : (l.map fun s => [Value.string s])[j]? = some [.string s] := by rw [List.getElem?_map, hj]; rfl
 have := hc j _ hj' 0 _ rfl
 simpa using this
def Frames (w : World) (A : Option Addr) (n : Nat) (l : List Fr) : Prop := Lies w A n 2 (l.map Fr.cells)
theorem Frames.below {w W : World} {A : Option Addr} {n : Nat} {l : List Fr} (h : Frames w A n l) (hb : Below w.heap.size w W) : Frames W A n l := Lies.below h hb
theorem Frames.len {w : World} {A : Option Addr} {n : Nat} {l : List Fr} (h : Frames w A n l) : l.length = n := by have := Lies.len h; simpa using this
theorem Frames.row {w : World} {A : Option Addr} {n : Nat} {l : List Fr} (h : Frames w A n l) (hn : 0 < n) : ∃ b off, A = some ⟨b, off, none⟩ ∧ b < w.heap.size ∧
  ∀ j x, l[j]? = some x → w.cell? ⟨b, off + j * 2, none⟩ = some (.int .i64 x.k) ∧ w.cell? ⟨b, off + j * 2 + 1, none⟩ = some (.int .i64 x.i) := by
 obtain ⟨b, off, e, hlt, hc⟩ := Lies.at_ h hn
 refine ⟨b, off, e, hlt, fun j x hj => ?_⟩
 have hj' : (l.map Fr.cells)[j]? = some x.cells := by rw [List.getElem?_map, hj]; rfl
 exact ⟨hc j _ hj' 0 _ rfl, hc j _ hj' 1 _ rfl⟩
namespace Port
def cells (l : List Fr) : List Value := (l.map Fr.cells).flatten
theorem cells_len (l : List Fr) : (cells l).length = l.length * 2 := by
 unfold cells
 induction l with
 | nil => rfl
 | cons a l ih => rw [List.map_cons, List.flatten_cons, List.length_append, ih, List.length_cons]; simp [Fr.cells]; omega
theorem cells_snoc (l : List Fr) (z : Fr) : cells (l ++ [z]) = cells l ++ z.cells := by simp [cells]
theorem cells_get (l : List Fr) (j : Nat) (z : Fr) (h : l[j]? = some z) : (cells l)[j * 2]? = some (.int .i64 z.k) ∧ (cells l)[j * 2 + 1]? = some (.int .i64 z.i) := by
 have hk : ∀ c ∈ l.map Fr.cells, c.length = 2 := by
  intro c hc
  obtain ⟨x, _, rfl⟩ := List.mem_map.1 hc
  rfl
 have hj : (l.map Fr.cells)[j]? = some z.cells := by rw [List.getElem?_map, h]; rfl
 exact ⟨flat_get 2 _ hk j _ hj 0 _ rfl, flat_get 2 _ hk j _ hj 1 _ rfl⟩
theorem cells_one (l : List Fr) : ∀ u ∈ cells l, u.oneCell' = true := by
 intro u hu
 unfold cells at hu
 obtain ⟨c, hc, hu⟩ := List.mem_flatten.1 hu
 obtain ⟨x, _, rfl⟩ := List.mem_map.1 hc
 simp [Fr.cells] at hu
 rcases hu with rfl | rfl <;> rfl
theorem cells_set (l : List Fr) : ∀ (j : Nat) (z : Fr), j < l.length → ((cells l).set (j * 2) (.int .i64 z.k)).set (j * 2 + 1) (.int .i64 z.i) = cells (l.set j z) := by
 induction l with
 | nil => intro j z h; simp at h
 | cons a l ih =>
  intro j z h
  cases j with
  | zero => rfl
  | succ j =>
   have h' : j < l.length := by simpa using h
   have := ih j z h'
   show ((a.cells ++ cells l).set ((j + 1) * 2) _).set ((j + 1) * 2 + 1) _ = a.cells ++ cells (l.set j z)
   rw [← this]
   have h2 : a.cells.length = 2 := rfl
   rw [List.set_append, if_neg (by rw [h2]; omega), List.set_append, if_neg (by rw [h2]; omega), h2, show (j + 1) * 2 - 2 = j * 2 by omega, show (j + 1) * 2 + 1 - 2 = j * 2 + 1 by omega]
theorem of_own {w : World} {base : Nat} {e : TypeId} {v : Value} {l : List Fr} (h : w.ownsRow base e 2 v l.length (cells l)) : ∃ A c, v = .slice A l.length c ∧ Frames w A l.length l := by
 rcases Nat.eq_zero_or_pos l.length with h0 | h0
 ·rcases h.2 with ⟨rfl, hn⟩ | ⟨g, cap, cur, rfl, _⟩
  ·exact ⟨none, 0, by rw [hn], by simp, fun hp => absurd hp (by omega)⟩
  ·exact ⟨_, cap, rfl, by simp, fun hp => absurd hp (by omega)⟩
 ·obtain ⟨g, cap, rfl, _, hg⟩ := h.form h0
  refine ⟨_, cap, rfl, by simp, fun _ => ⟨g, 0, rfl, hg, fun j c hj i v hv => ?_⟩⟩
  have hk : ∀ c ∈ l.map Fr.cells, c.length = 2 := by
   intro c hc
   obtain ⟨x, _, rfl⟩ := List.mem_map.1 hc
   rfl
  have h1 : (cells l)[j * 2 + i]? = some v := flat_get 2 _ hk j c hj i v hv
  have hlt : j * 2 + i < l.length * 2 := by have := (List.getElem?_eq_some_iff.1 h1).1; rw [cells_len] at this; exact this
  rw [Nat.zero_add, h.cellAt _ hlt]
  exact h1
def one (p : Nat) (s : ByteArray) : Fr := if (Wire.get s).right = true ∧ (Wire.get s).i = (p : Int) then Wire.get s else Fr.none
def take (l : List ByteArray) (k : Nat) : List Fr := (List.range k).map fun p => one p (l.getD p ByteArray.empty)
theorem take_len (l : List ByteArray) (k : Nat) : (take l k).length = k := by simp [take]
theorem take_succ (l : List ByteArray) (k : Nat) (s : ByteArray) (h : l[k]? = some s) : take l (k + 1) = take l k ++ [one k s] := by
 unfold take
 rw [List.range_succ, List.map_append]
 simp [List.getD_eq_getElem?_getD, h]
def pick (a b : Fr) : Fr := if a = Fr.none then b else a
def both (a b : List Fr) : List Fr := List.zipWith pick a b
theorem _root_.List.set_eq_self_of {α : Type} {l : List α} {k : Nat} {x : α} (h : l[k]? = some x) : l.set k x = l := by
 apply List.ext_getElem?
 intro j
 by_cases e : j = k
 ·subst e
  rw [List.getElem?_set_self (List.getElem?_eq_some_iff.1 h).1, h]
 ·rw [List.getElem?_set_ne (fun h => e h.symm)]
theorem both_len (a b : List Fr) (h : a.length = b.length) : (both a b).length = b.length := by unfold both; rw [List.length_zipWith]; omega
theorem both_get (a b : List Fr) (k : Nat) (x y : Fr) (hx : a[k]? = some x) (hy : b[k]? = some y) : (both a b)[k]? = some (pick x y) := by
 unfold both
 rw [List.getElem?_zipWith, hx, hy]
theorem take_get (l : List ByteArray) (n k : Nat) (s : ByteArray) (h : k < n) (hs : l[k]? = some s) : (take l n)[k]? = some (one k s) := by
 unfold take
 rw [List.getElem?_map, List.getElem?_range h, Option.map_some, List.getD_eq_getElem?_getD, hs]
 rfl
def mix (p q : List Fr) (k : Nat) : List Fr := p.take k ++ q.drop k
theorem mix_zero (p q : List Fr) : mix p q 0 = q := by simp [mix]
theorem mix_all (p q : List Fr) (k : Nat) (hp : p.length = k) (hq : q.length = k) : mix p q k = p := by
 subst hp
 simp [mix, hq, List.drop_eq_nil_of_le (Nat.le_of_eq hq)]
theorem mix_len (p q : List Fr) (k : Nat) (h : p.length = q.length) (hk : k ≤ q.length) : (mix p q k).length = q.length := by simp [mix]; omega
theorem mix_at (p q : List Fr) (k : Nat) (y : Fr) (h : p.length = q.length) (hy : q[k]? = some y) : (mix p q k)[k]? = some y := by
 have hk : k < q.length := (List.getElem?_eq_some_iff.1 hy).1
 have hl : (p.take k).length = k := by rw [List.length_take]; omega
 unfold mix
 rw [List.getElem?_append_right (by omega), hl, Nat.sub_self, List.getElem?_drop, Nat.add_zero]
 exact hy
theorem mix_succ (p q : List Fr) (k : Nat) (x : Fr) (h : p.length = q.length) (hx : p[k]? = some x) : mix p q (k + 1) = (mix p q k).set k x := by
 have hk : k < p.length := (List.getElem?_eq_some_iff.1 hx).1
 have hx' : p[k] = x := (List.getElem?_eq_some_iff.1 hx).2
 have hl : (p.take k).length = k := by rw [List.length_take]; omega
 unfold mix
 rw [List.set_append, if_neg (by omega), hl, Nat.sub_self, List.drop_eq_getElem_cons (show k < q.length by omega), List.set_cons_zero, List.take_succ_eq_append_getElem hk, hx', List.append_assoc]
 rfl
theorem mix_same (p q : List Fr) (k : Nat) (x : Fr) (h : p.length = q.length) (hx : p[k]? = some x) (hy : q[k]? = some x) : mix p q (k + 1) = mix p q k := by
 rw [mix_succ p q k x h hx]
 exact List.set_eq_self_of (mix_at p q k x h hy)
theorem one_eq (p : Nat) (s : ByteArray) : one p s = if (Wire.get s).right = true ∧ (Wire.get s).i = (p : Int) then Wire.get s else Fr.none := rfl
theorem _root_.Go.Proofs.YtgiojagdmglinaaGreatDoor.Frames.news {w : World} {a : Addr} {n : Nat} {l : List Fr} (h : Frames w (some a) n l) : (cells l).length = n * 2 ∧ ∀ j u, (cells l)[j]? = some u → w.cell? (a.add j) = some u := by
 have hl := h.len
 refine ⟨by rw [cells_len, hl], fun j u hu => ?_⟩
 have hj : j < n * 2 := by have := (List.getElem?_eq_some_iff.1 hu).1; rw [cells_len, hl] at this; exact this
 obtain ⟨b, off, e, hb, hrow⟩ := h.row (by omega)
 simp only [Option.some.injEq] at e
 subst e
 obtain ⟨z, hz⟩ : ∃ z, l[j / 2]? = some z := ⟨_, List.getElem?_eq_getElem (by omega)⟩
 obtain ⟨c0, c1⟩ := cells_get l (j / 2) z hz
 obtain ⟨r0, r1⟩ := hrow (j / 2) z hz
 rw [Go.WideShapes.add_plain]
 rcases Nat.mod_two_eq_zero_or_one j with e | e
 ·have ej : j / 2 * 2 = j := by omega
  rw [ej] at c0 r0
  rw [r0, ← hu, c0]
 ·have ej : j / 2 * 2 + 1 = j := by omega
  rw [ej] at c1
  rw [show off + j / 2 * 2 + 1 = off + j by omega] at r1
  rw [r1, ← hu, c1]
end Port
end Go.Proofs.YtgiojagdmglinaaGreatDoor
