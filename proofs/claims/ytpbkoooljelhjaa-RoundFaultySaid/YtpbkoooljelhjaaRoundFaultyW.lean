/-
  RoundFaulty: the walk of the statement's own function.
-/
import Derived.Test.YtpbkoooljelhjaaRound9
import Derived.Test.YtpbkoooljelhjaaOp4
import Derived.BigRegion
namespace Go.Proofs.Ytpbkoooljelhjaa.RoundFaulty
set_option linter.unusedVariables false
set_option linter.unusedSimpArgs false
open Go.RowKit

theorem gen {P : Program} {c : Code} {Q : Exit → Act → World → Prop} {a : Act} {W : World} (S : World → Prop) (hS : S W) (h : ∀ W, S W → Code.wp P c Q a W) : Code.wp P c Q a W := h W hS
theorem sw0 (l : List Nd) (a b x : Fr) : Rd.order 2 0 l a b = Rd.order 2 0 l x b ∧ Rd.order 2 0 l a b = Rd.order 0 0 l b b := by
  have ha : Vw.active 2 0 l = Vw.active 0 0 l := rfl
  have hs : Vw.slot 2 0 l = Vw.slot 0 0 l := rfl
  unfold Rd.order Rd.owner
  rw [hs, ha]
  cases Vw.slot 0 0 l with
  | none => exact ⟨rfl, rfl⟩
  | some s => simp [Rd.relayed, Rd.pick, Rd.fhub]
theorem sw1 (l : List Nd) (a b x : Fr) : Rd.order 2 1 l a b = Rd.order 2 1 l a x ∧ Rd.order 2 1 l a b = Rd.order 0 0 l a a := by
  have ha : Vw.active 2 1 l = Vw.active 0 0 l := rfl
  have hs : Vw.slot 2 1 l = Vw.slot 0 0 l := rfl
  unfold Rd.order Rd.owner
  rw [hs, ha]
  cases Vw.slot 0 0 l with
  | none => exact ⟨rfl, rfl⟩
  | some s => simp [Rd.relayed, Rd.pick, Rd.fhub]

set_option maxHeartbeats 4000000 in
set_option maxRecDepth 100000 in
theorem walk1 (who : Bool) (A2 A : Option Addr) (n2 cap2 n cap : Nat) (lt r0k r0i r1k r1i xk xi : Int) (ah : List Nd) (w : World) (hah : Nodes w A2 n2 ah) (hn2 : n2 ≤ 9223372036854775807) (hn : n ≤ 9223372036854775807) :
    Calls Try.prog 20 #[.agg #[.bool who, .slice A2 n2 cap2, .int .i64 lt, .int .i64 r0k, .int .i64 r0i, .int .i64 r1k, .int .i64 r1i, .slice A n cap, .int .i64 xk, .int .i64 xi]] w fun e w' => e = .returned (.bool true) ∧ Below w.heap.size w w' := by
  have HAH := Lib.hid hah
  clear hah
  go_enter Try.func20, Try.ntmps20
  go_wp2_with fail
  go_region
  all_goals
    by_cases h20 : n2 ≤ 20 ∧ n ≤ 20
    · obtain ⟨h2, h3⟩ := h20
      have g20 : decide ((20 : Int) < (n2 : Int)) = false := by simp; omega
      have g21 : decide ((20 : Int) < (n : Int)) = false := by simp; omega
      cases who
      · have hsw := sw0 ah ⟨r0k, r0i⟩ ⟨r1k, r1i⟩ ⟨xk, xi⟩
        have k1 := fun (t : Int) (N : Value) W (hW : Below w.heap.size w W) => Rd.order_calls 2 0 t r0k r0i r1k r1i A2 n2 cap2 ah N W (HAH.out.below hW) (by omega)
        have k2 := fun (t : Int) (N : Value) W (hW : Below w.heap.size w W) => Rd.order_calls 2 0 t xk xi r1k r1i A2 n2 cap2 ah N W (HAH.out.below hW) (by omega)
        have k3 := fun (t : Int) (N : Value) W (hW : Below w.heap.size w W) => Rd.order_calls 0 0 t r1k r1i r1k r1i A2 n2 cap2 ah N W (HAH.out.below hW) (by omega)
        rw [← hsw.1] at k2
        rw [← hsw.2] at k3
        generalize Rd.order 2 0 ah ⟨r0k, r0i⟩ ⟨r1k, r1i⟩ = o1 at *
        have K1 := Lib.hid k1
        have K2 := Lib.hid k2
        have K3 := Lib.hid k3
        clear k1 k2 k3 hsw
        go_wp2_with fail
        first
          | (
            refine gen (fun w' => (w'.cell? ⟨w.heap.size + 3, 0, none⟩ = some (.int .i64 2) ∧ w'.cell? ⟨w.heap.size + 3, 1, none⟩ = some (.int .i64 0) ∧ w'.cell? ⟨w.heap.size + 1, 0, none⟩ = some (.int .i64 lt) ∧ w'.cell? ⟨w.heap.size + 1, 1, none⟩ = some (.int .i64 r0k) ∧ w'.cell? ⟨w.heap.size + 1, 2, none⟩ = some (.int .i64 r0i) ∧ w'.cell? ⟨w.heap.size + 1, 3, none⟩ = some (.int .i64 r1k) ∧ w'.cell? ⟨w.heap.size + 1, 4, none⟩ = some (.int .i64 r1i) ∧ w'.cell? ⟨w.heap.size + 1, 5, none⟩ = some (.slice A n cap) ∧ w'.cell? ⟨w.heap.size + 4, 0, none⟩ = some (.int .i64 lt) ∧ w'.cell? ⟨w.heap.size + 4, 1, none⟩ = some (.int .i64 xk) ∧ w'.cell? ⟨w.heap.size + 4, 2, none⟩ = some (.int .i64 xi) ∧ w'.cell? ⟨w.heap.size + 4, 3, none⟩ = some (.int .i64 r1k) ∧ w'.cell? ⟨w.heap.size + 4, 4, none⟩ = some (.int .i64 r1i) ∧ w'.cell? ⟨w.heap.size + 4, 5, none⟩ = some (.slice A n cap) ∧ w'.cell? ⟨w.heap.size + 5, 0, none⟩ = some (.int .i64 lt) ∧ w'.cell? ⟨w.heap.size + 5, 1, none⟩ = some (.int .i64 r1k) ∧ w'.cell? ⟨w.heap.size + 5, 2, none⟩ = some (.int .i64 r1i) ∧ w'.cell? ⟨w.heap.size + 5, 3, none⟩ = some (.int .i64 r1k) ∧ w'.cell? ⟨w.heap.size + 5, 4, none⟩ = some (.int .i64 r1i) ∧ w'.cell? ⟨w.heap.size + 5, 5, none⟩ = some (.slice A n cap)) ∧ Below w.heap.size w w') ?_ ?_
            · refine ⟨?_, (by (repeat' (first | (refine Below.drew ?_) | (refine Below.alloc ?_ ?_ _) | (exact Below.refl _ _))); all_goals (first | omega | (simp; done) | (simp; omega)))⟩
              (repeat' apply And.intro) <;> (go_simp; done)
            rintro W0 ⟨⟨f0, f1, l0, l1, l2, l3, l4, l5, m0, m1, m2, m3, m4, m5, q0, q1, q2, q3, q4, q5⟩, hB0⟩
            have B0 := Lib.hid hB0
            clear hB0
            refine wp_region_held_drew (S := (fun w' => w'.cell? ⟨w.heap.size + 3, 0, none⟩ = some (.int .i64 2) ∧ w'.cell? ⟨w.heap.size + 3, 1, none⟩ = some (.int .i64 0) ∧ w'.cell? ⟨w.heap.size + 1, 0, none⟩ = some (.int .i64 lt) ∧ w'.cell? ⟨w.heap.size + 1, 1, none⟩ = some (.int .i64 r0k) ∧ w'.cell? ⟨w.heap.size + 1, 2, none⟩ = some (.int .i64 r0i) ∧ w'.cell? ⟨w.heap.size + 1, 3, none⟩ = some (.int .i64 r1k) ∧ w'.cell? ⟨w.heap.size + 1, 4, none⟩ = some (.int .i64 r1i) ∧ w'.cell? ⟨w.heap.size + 1, 5, none⟩ = some (.slice A n cap) ∧ w'.cell? ⟨w.heap.size + 4, 0, none⟩ = some (.int .i64 lt) ∧ w'.cell? ⟨w.heap.size + 4, 1, none⟩ = some (.int .i64 xk) ∧ w'.cell? ⟨w.heap.size + 4, 2, none⟩ = some (.int .i64 xi) ∧ w'.cell? ⟨w.heap.size + 4, 3, none⟩ = some (.int .i64 r1k) ∧ w'.cell? ⟨w.heap.size + 4, 4, none⟩ = some (.int .i64 r1i) ∧ w'.cell? ⟨w.heap.size + 4, 5, none⟩ = some (.slice A n cap) ∧ w'.cell? ⟨w.heap.size + 5, 0, none⟩ = some (.int .i64 lt) ∧ w'.cell? ⟨w.heap.size + 5, 1, none⟩ = some (.int .i64 r1k) ∧ w'.cell? ⟨w.heap.size + 5, 2, none⟩ = some (.int .i64 r1i) ∧ w'.cell? ⟨w.heap.size + 5, 3, none⟩ = some (.int .i64 r1k) ∧ w'.cell? ⟨w.heap.size + 5, 4, none⟩ = some (.int .i64 r1i) ∧ w'.cell? ⟨w.heap.size + 5, 5, none⟩ = some (.slice A n cap))) (by kernel_rfl) ?_ (fun hHeld => ?_)
            · go_keep
            refine Rgn.one 0 rfl (by kernel_rfl) (fun K hK => ?_)
            go_simp
            refine (Rd.awake_calls _).mono ?_
            rintro e y0 ⟨rfl, bq⟩
            replace f0 := Kit.cell_below bq f0
            replace f1 := Kit.cell_below bq f1
            replace l0 := Kit.cell_below bq l0
            replace l1 := Kit.cell_below bq l1
            replace l2 := Kit.cell_below bq l2
            replace l3 := Kit.cell_below bq l3
            replace l4 := Kit.cell_below bq l4
            replace l5 := Kit.cell_below bq l5
            replace m0 := Kit.cell_below bq m0
            replace m1 := Kit.cell_below bq m1
            replace m2 := Kit.cell_below bq m2
            replace m3 := Kit.cell_below bq m3
            replace m4 := Kit.cell_below bq m4
            replace m5 := Kit.cell_below bq m5
            replace q0 := Kit.cell_below bq q0
            replace q1 := Kit.cell_below bq q1
            replace q2 := Kit.cell_below bq q2
            replace q3 := Kit.cell_below bq q3
            replace q4 := Kit.cell_below bq q4
            replace q5 := Kit.cell_below bq q5
            have D0 := Lib.hid (B0.out.drew.trans (bq.mono B0.out.drew.size))
            clear bq
            go_simp
            refine hK.out _ _ ?_ (fun hHeld => ?_)
            · go_keep
            clear hK K
            try simp only [Act.put, List.setIfInBounds_toArray, List.set_cons_zero, List.set_cons_succ]
            refine Rgn.take 1 (v := ?_) rfl (by kernel_rfl) (by kernel_rfl) (by kernel_rfl) (fun _ _ _ h => h) (by kernel_rfl) ?_ (by assumption) ?_
            rotate_left
            · intro w hSw
              (try dsimp only at hSw)
              go_simp
              try with_reducible rfl
            try simp only [Act.put, List.setIfInBounds_toArray, List.set_cons_zero, List.set_cons_succ]
            refine Rgn.take 2 (v := ?_) rfl (by kernel_rfl) (by kernel_rfl) (by kernel_rfl) (fun _ _ _ h => h) (by kernel_rfl) ?_ (by assumption) ?_
            rotate_left
            · intro w hSw
              (try dsimp only at hSw)
              go_simp
              try with_reducible rfl
            try simp only [Act.put, List.setIfInBounds_toArray, List.set_cons_zero, List.set_cons_succ]
            refine Rgn.take 3 (v := ?_) rfl (by kernel_rfl) (by kernel_rfl) (by kernel_rfl) (fun _ _ _ h => h) (by kernel_rfl) ?_ (by assumption) ?_
            rotate_left
            · intro w hSw
              (try dsimp only at hSw)
              go_simp
              try with_reducible rfl
            try simp only [Act.put, List.setIfInBounds_toArray, List.set_cons_zero, List.set_cons_succ]
            refine Rgn.take 4 (v := ?_) rfl (by kernel_rfl) (by kernel_rfl) (by kernel_rfl) (fun _ _ _ h => h) (by kernel_rfl) ?_ (by assumption) ?_
            rotate_left
            · intro w hSw
              (try dsimp only at hSw)
              go_simp
              try with_reducible rfl
            try simp only [Act.put, List.setIfInBounds_toArray, List.set_cons_zero, List.set_cons_succ]
            refine Rgn.take 6 (v := ?_) rfl (by kernel_rfl) (by kernel_rfl) (by kernel_rfl) (fun _ _ _ h => h) (by kernel_rfl) ?_ (by assumption) ?_
            rotate_left
            · intro w hSw
              (try dsimp only at hSw)
              go_simp
              try with_reducible rfl
            try simp only [Act.put, List.setIfInBounds_toArray, List.set_cons_zero, List.set_cons_succ]
            refine Rgn.take 7 (v := ?_) rfl (by kernel_rfl) (by kernel_rfl) (by kernel_rfl) (fun _ _ _ h => h) (by kernel_rfl) ?_ (by assumption) ?_
            rotate_left
            · intro w hSw
              (try dsimp only at hSw)
              go_simp
              try with_reducible rfl
            try simp only [Act.put, List.setIfInBounds_toArray, List.set_cons_zero, List.set_cons_succ]
            refine Rgn.take 8 (v := ?_) rfl (by kernel_rfl) (by kernel_rfl) (by kernel_rfl) (fun _ _ _ h => h) (by kernel_rfl) ?_ (by assumption) ?_
            rotate_left
            · intro w hSw
              (try dsimp only at hSw)
              go_simp
              try with_reducible rfl
            try simp only [Act.put, List.setIfInBounds_toArray, List.set_cons_zero, List.set_cons_succ]
            refine Rgn.one 5 rfl (by kernel_rfl) (fun K hK => ?_)
            go_simp
            refine (K1.out _ _ _ D0.out).mono ?_
            rintro e y1 ⟨rfl, bq⟩
            replace f0 := Kit.cell_below bq f0
            replace f1 := Kit.cell_below bq f1
            replace l0 := Kit.cell_below bq l0
            replace l1 := Kit.cell_below bq l1
            replace l2 := Kit.cell_below bq l2
            replace l3 := Kit.cell_below bq l3
            replace l4 := Kit.cell_below bq l4
            replace l5 := Kit.cell_below bq l5
            replace m0 := Kit.cell_below bq m0
            replace m1 := Kit.cell_below bq m1
            replace m2 := Kit.cell_below bq m2
            replace m3 := Kit.cell_below bq m3
            replace m4 := Kit.cell_below bq m4
            replace m5 := Kit.cell_below bq m5
            replace q0 := Kit.cell_below bq q0
            replace q1 := Kit.cell_below bq q1
            replace q2 := Kit.cell_below bq q2
            replace q3 := Kit.cell_below bq q3
            replace q4 := Kit.cell_below bq q4
            replace q5 := Kit.cell_below bq q5
            have D1 := Lib.hid (Kit.chain D0.out bq)
            clear bq
            go_simp
            refine hK.out _ _ ?_ (fun hHeld => ?_)
            · go_keep
            clear hK K
            try simp only [Act.put, List.setIfInBounds_toArray, List.set_cons_zero, List.set_cons_succ]
            refine Rgn.one 9 rfl (by kernel_rfl) (fun K hK => ?_)
            go_simp
            refine (K2.out _ _ _ D1.out).mono ?_
            rintro e y2 ⟨rfl, bq⟩
            replace f0 := Kit.cell_below bq f0
            replace f1 := Kit.cell_below bq f1
            replace l0 := Kit.cell_below bq l0
            replace l1 := Kit.cell_below bq l1
            replace l2 := Kit.cell_below bq l2
            replace l3 := Kit.cell_below bq l3
            replace l4 := Kit.cell_below bq l4
            replace l5 := Kit.cell_below bq l5
            replace m0 := Kit.cell_below bq m0
            replace m1 := Kit.cell_below bq m1
            replace m2 := Kit.cell_below bq m2
            replace m3 := Kit.cell_below bq m3
            replace m4 := Kit.cell_below bq m4
            replace m5 := Kit.cell_below bq m5
            replace q0 := Kit.cell_below bq q0
            replace q1 := Kit.cell_below bq q1
            replace q2 := Kit.cell_below bq q2
            replace q3 := Kit.cell_below bq q3
            replace q4 := Kit.cell_below bq q4
            replace q5 := Kit.cell_below bq q5
            have D2 := Lib.hid (Kit.chain D1.out bq)
            clear bq
            go_simp
            refine hK.out _ _ ?_ (fun hHeld => ?_)
            · go_keep
            clear hK K
            try simp only [Act.put, List.setIfInBounds_toArray, List.set_cons_zero, List.set_cons_succ]
            refine Rgn.take 10 (v := ?_) rfl (by kernel_rfl) (by kernel_rfl) (by kernel_rfl) (fun _ _ _ h => h) (by kernel_rfl) ?_ (by assumption) ?_
            rotate_left
            · intro w hSw
              (try dsimp only at hSw)
              go_simp
              try with_reducible rfl
            try simp only [Act.put, List.setIfInBounds_toArray, List.set_cons_zero, List.set_cons_succ]
            refine Rgn.take 11 (v := ?_) rfl (by kernel_rfl) (by kernel_rfl) (by kernel_rfl) (fun _ _ _ h => h) (by kernel_rfl) ?_ (by assumption) ?_
            rotate_left
            · intro w hSw
              (try dsimp only at hSw)
              go_simp
              try with_reducible rfl
            try simp only [Act.put, List.setIfInBounds_toArray, List.set_cons_zero, List.set_cons_succ]
            refine Rgn.take 12 (v := ?_) rfl (by kernel_rfl) (by kernel_rfl) (by kernel_rfl) (fun _ _ _ h => h) (by kernel_rfl) ?_ (by assumption) ?_
            rotate_left
            · intro w hSw
              (try dsimp only at hSw)
              go_simp
              try with_reducible rfl
            try simp only [Act.put, List.setIfInBounds_toArray, List.set_cons_zero, List.set_cons_succ]
            refine Rgn.take 13 (v := ?_) rfl (by kernel_rfl) (by kernel_rfl) (by kernel_rfl) (fun _ _ _ h => h) (by kernel_rfl) ?_ (by assumption) ?_
            rotate_left
            · intro w hSw
              (try dsimp only at hSw)
              go_simp
              try with_reducible rfl
            try simp only [Act.put, List.setIfInBounds_toArray, List.set_cons_zero, List.set_cons_succ]
            refine Rgn.take 14 (v := ?_) rfl (by kernel_rfl) (by kernel_rfl) (by kernel_rfl) (fun _ _ _ h => h) (by kernel_rfl) ?_ (by assumption) ?_
            rotate_left
            · intro w hSw
              (try dsimp only at hSw)
              go_simp
              try with_reducible rfl
            try simp only [Act.put, List.setIfInBounds_toArray, List.set_cons_zero, List.set_cons_succ]
            refine Rgn.take 15 (v := ?_) rfl (by kernel_rfl) (by kernel_rfl) (by kernel_rfl) (fun _ _ _ h => h) (by kernel_rfl) ?_ (by assumption) ?_
            rotate_left
            · intro w hSw
              (try dsimp only at hSw)
              go_simp
              try with_reducible rfl
            try simp only [Act.put, List.setIfInBounds_toArray, List.set_cons_zero, List.set_cons_succ]
            refine Rgn.take 17 (v := ?_) rfl (by kernel_rfl) (by kernel_rfl) (by kernel_rfl) (fun _ _ _ h => h) (by kernel_rfl) ?_ (by assumption) ?_
            rotate_left
            · intro w hSw
              (try dsimp only at hSw)
              go_simp
              try with_reducible rfl
            try simp only [Act.put, List.setIfInBounds_toArray, List.set_cons_zero, List.set_cons_succ]
            refine Rgn.take 18 (v := ?_) rfl (by kernel_rfl) (by kernel_rfl) (by kernel_rfl) (fun _ _ _ h => h) (by kernel_rfl) ?_ (by assumption) ?_
            rotate_left
            · intro w hSw
              (try dsimp only at hSw)
              go_simp
              try with_reducible rfl
            try simp only [Act.put, List.setIfInBounds_toArray, List.set_cons_zero, List.set_cons_succ]
            refine Rgn.take 19 (v := ?_) rfl (by kernel_rfl) (by kernel_rfl) (by kernel_rfl) (fun _ _ _ h => h) (by kernel_rfl) ?_ (by assumption) ?_
            rotate_left
            · intro w hSw
              (try dsimp only at hSw)
              go_simp
              try with_reducible rfl
            try simp only [Act.put, List.setIfInBounds_toArray, List.set_cons_zero, List.set_cons_succ]
            refine Rgn.one 16 rfl (by kernel_rfl) (fun K hK => ?_)
            go_simp
            refine (K1.out _ _ _ D2.out).mono ?_
            rintro e y3 ⟨rfl, bq⟩
            replace f0 := Kit.cell_below bq f0
            replace f1 := Kit.cell_below bq f1
            replace l0 := Kit.cell_below bq l0
            replace l1 := Kit.cell_below bq l1
            replace l2 := Kit.cell_below bq l2
            replace l3 := Kit.cell_below bq l3
            replace l4 := Kit.cell_below bq l4
            replace l5 := Kit.cell_below bq l5
            replace m0 := Kit.cell_below bq m0
            replace m1 := Kit.cell_below bq m1
            replace m2 := Kit.cell_below bq m2
            replace m3 := Kit.cell_below bq m3
            replace m4 := Kit.cell_below bq m4
            replace m5 := Kit.cell_below bq m5
            replace q0 := Kit.cell_below bq q0
            replace q1 := Kit.cell_below bq q1
            replace q2 := Kit.cell_below bq q2
            replace q3 := Kit.cell_below bq q3
            replace q4 := Kit.cell_below bq q4
            replace q5 := Kit.cell_below bq q5
            have D3 := Lib.hid (Kit.chain D2.out bq)
            clear bq
            go_simp
            refine hK.out _ _ ?_ (fun hHeld => ?_)
            · go_keep
            clear hK K
            try simp only [Act.put, List.setIfInBounds_toArray, List.set_cons_zero, List.set_cons_succ]
            refine Rgn.one 20 rfl (by kernel_rfl) (fun K hK => ?_)
            go_simp
            refine (K3.out _ _ _ D3.out).mono ?_
            rintro e y4 ⟨rfl, bq⟩
            replace f0 := Kit.cell_below bq f0
            replace f1 := Kit.cell_below bq f1
            replace l0 := Kit.cell_below bq l0
            replace l1 := Kit.cell_below bq l1
            replace l2 := Kit.cell_below bq l2
            replace l3 := Kit.cell_below bq l3
            replace l4 := Kit.cell_below bq l4
            replace l5 := Kit.cell_below bq l5
            replace m0 := Kit.cell_below bq m0
            replace m1 := Kit.cell_below bq m1
            replace m2 := Kit.cell_below bq m2
            replace m3 := Kit.cell_below bq m3
            replace m4 := Kit.cell_below bq m4
            replace m5 := Kit.cell_below bq m5
            replace q0 := Kit.cell_below bq q0
            replace q1 := Kit.cell_below bq q1
            replace q2 := Kit.cell_below bq q2
            replace q3 := Kit.cell_below bq q3
            replace q4 := Kit.cell_below bq q4
            replace q5 := Kit.cell_below bq q5
            have D4 := Lib.hid (Kit.chain D3.out bq)
            clear bq
            go_simp
            refine hK.out _ _ ?_ (fun hHeld => ?_)
            · go_keep
            clear hK K
            try simp only [Act.put, List.setIfInBounds_toArray, List.set_cons_zero, List.set_cons_succ]
            refine Rgn.take 21 (v := ?_) rfl (by kernel_rfl) (by kernel_rfl) (by kernel_rfl) (fun _ _ _ h => h) (by kernel_rfl) ?_ (by assumption) ?_
            rotate_left
            · intro w hSw
              (try dsimp only at hSw)
              go_simp
              try with_reducible rfl
            try simp only [Act.put, List.setIfInBounds_toArray, List.set_cons_zero, List.set_cons_succ]
            refine Rgn.take 22 (v := ?_) rfl (by kernel_rfl) (by kernel_rfl) (by kernel_rfl) (fun _ _ _ h => h) (by kernel_rfl) ?_ (by assumption) ?_
            rotate_left
            · intro w hSw
              (try dsimp only at hSw)
              go_simp
              try with_reducible rfl
            try simp only [Act.put, List.setIfInBounds_toArray, List.set_cons_zero, List.set_cons_succ]
            refine Rgn.take 23 (v := ?_) rfl (by kernel_rfl) (by kernel_rfl) (by kernel_rfl) (fun _ _ _ h => h) (by kernel_rfl) ?_ (by assumption) ?_
            rotate_left
            · intro w hSw
              (try dsimp only at hSw)
              go_simp
              try with_reducible rfl
            try simp only [Act.put, List.setIfInBounds_toArray, List.set_cons_zero, List.set_cons_succ]
            refine wpAnyH_done (by kernel_rfl) ?_ _
            go_wp2_with fail
            go_ret
            exact ⟨by simp, D4.out⟩
            )
          | (
            refine gen (fun w' => (w'.cell? ⟨w.heap.size + 3, 0, none⟩ = some (.int .i64 2) ∧ w'.cell? ⟨w.heap.size + 3, 1, none⟩ = some (.int .i64 0) ∧ w'.cell? ⟨w.heap.size + 2, 0, none⟩ = some (.int .i64 lt) ∧ w'.cell? ⟨w.heap.size + 2, 1, none⟩ = some (.int .i64 r0k) ∧ w'.cell? ⟨w.heap.size + 2, 2, none⟩ = some (.int .i64 r0i) ∧ w'.cell? ⟨w.heap.size + 2, 3, none⟩ = some (.int .i64 r1k) ∧ w'.cell? ⟨w.heap.size + 2, 4, none⟩ = some (.int .i64 r1i) ∧ w'.cell? ⟨w.heap.size + 2, 5, none⟩ = some (.slice A n cap) ∧ w'.cell? ⟨w.heap.size + 4, 0, none⟩ = some (.int .i64 lt) ∧ w'.cell? ⟨w.heap.size + 4, 1, none⟩ = some (.int .i64 xk) ∧ w'.cell? ⟨w.heap.size + 4, 2, none⟩ = some (.int .i64 xi) ∧ w'.cell? ⟨w.heap.size + 4, 3, none⟩ = some (.int .i64 r1k) ∧ w'.cell? ⟨w.heap.size + 4, 4, none⟩ = some (.int .i64 r1i) ∧ w'.cell? ⟨w.heap.size + 4, 5, none⟩ = some (.slice A n cap) ∧ w'.cell? ⟨w.heap.size + 5, 0, none⟩ = some (.int .i64 lt) ∧ w'.cell? ⟨w.heap.size + 5, 1, none⟩ = some (.int .i64 r1k) ∧ w'.cell? ⟨w.heap.size + 5, 2, none⟩ = some (.int .i64 r1i) ∧ w'.cell? ⟨w.heap.size + 5, 3, none⟩ = some (.int .i64 r1k) ∧ w'.cell? ⟨w.heap.size + 5, 4, none⟩ = some (.int .i64 r1i) ∧ w'.cell? ⟨w.heap.size + 5, 5, none⟩ = some (.slice A n cap)) ∧ Below w.heap.size w w') ?_ ?_
            · refine ⟨?_, (by (repeat' (first | (refine Below.drew ?_) | (refine Below.alloc ?_ ?_ _) | (exact Below.refl _ _))); all_goals (first | omega | (simp; done) | (simp; omega)))⟩
              (repeat' apply And.intro) <;> (go_simp; done)
            rintro W0 ⟨⟨f0, f1, l0, l1, l2, l3, l4, l5, m0, m1, m2, m3, m4, m5, q0, q1, q2, q3, q4, q5⟩, hB0⟩
            have B0 := Lib.hid hB0
            clear hB0
            refine wp_region_held_drew (S := (fun w' => w'.cell? ⟨w.heap.size + 3, 0, none⟩ = some (.int .i64 2) ∧ w'.cell? ⟨w.heap.size + 3, 1, none⟩ = some (.int .i64 0) ∧ w'.cell? ⟨w.heap.size + 2, 0, none⟩ = some (.int .i64 lt) ∧ w'.cell? ⟨w.heap.size + 2, 1, none⟩ = some (.int .i64 r0k) ∧ w'.cell? ⟨w.heap.size + 2, 2, none⟩ = some (.int .i64 r0i) ∧ w'.cell? ⟨w.heap.size + 2, 3, none⟩ = some (.int .i64 r1k) ∧ w'.cell? ⟨w.heap.size + 2, 4, none⟩ = some (.int .i64 r1i) ∧ w'.cell? ⟨w.heap.size + 2, 5, none⟩ = some (.slice A n cap) ∧ w'.cell? ⟨w.heap.size + 4, 0, none⟩ = some (.int .i64 lt) ∧ w'.cell? ⟨w.heap.size + 4, 1, none⟩ = some (.int .i64 xk) ∧ w'.cell? ⟨w.heap.size + 4, 2, none⟩ = some (.int .i64 xi) ∧ w'.cell? ⟨w.heap.size + 4, 3, none⟩ = some (.int .i64 r1k) ∧ w'.cell? ⟨w.heap.size + 4, 4, none⟩ = some (.int .i64 r1i) ∧ w'.cell? ⟨w.heap.size + 4, 5, none⟩ = some (.slice A n cap) ∧ w'.cell? ⟨w.heap.size + 5, 0, none⟩ = some (.int .i64 lt) ∧ w'.cell? ⟨w.heap.size + 5, 1, none⟩ = some (.int .i64 r1k) ∧ w'.cell? ⟨w.heap.size + 5, 2, none⟩ = some (.int .i64 r1i) ∧ w'.cell? ⟨w.heap.size + 5, 3, none⟩ = some (.int .i64 r1k) ∧ w'.cell? ⟨w.heap.size + 5, 4, none⟩ = some (.int .i64 r1i) ∧ w'.cell? ⟨w.heap.size + 5, 5, none⟩ = some (.slice A n cap))) (by kernel_rfl) ?_ (fun hHeld => ?_)
            · go_keep
            refine Rgn.one 0 rfl (by kernel_rfl) (fun K hK => ?_)
            go_simp
            refine (Rd.awake_calls _).mono ?_
            rintro e y0 ⟨rfl, bq⟩
            replace f0 := Kit.cell_below bq f0
            replace f1 := Kit.cell_below bq f1
            replace l0 := Kit.cell_below bq l0
            replace l1 := Kit.cell_below bq l1
            replace l2 := Kit.cell_below bq l2
            replace l3 := Kit.cell_below bq l3
            replace l4 := Kit.cell_below bq l4
            replace l5 := Kit.cell_below bq l5
            replace m0 := Kit.cell_below bq m0
            replace m1 := Kit.cell_below bq m1
            replace m2 := Kit.cell_below bq m2
            replace m3 := Kit.cell_below bq m3
            replace m4 := Kit.cell_below bq m4
            replace m5 := Kit.cell_below bq m5
            replace q0 := Kit.cell_below bq q0
            replace q1 := Kit.cell_below bq q1
            replace q2 := Kit.cell_below bq q2
            replace q3 := Kit.cell_below bq q3
            replace q4 := Kit.cell_below bq q4
            replace q5 := Kit.cell_below bq q5
            have D0 := Lib.hid (B0.out.drew.trans (bq.mono B0.out.drew.size))
            clear bq
            go_simp
            refine hK.out _ _ ?_ (fun hHeld => ?_)
            · go_keep
            clear hK K
            try simp only [Act.put, List.setIfInBounds_toArray, List.set_cons_zero, List.set_cons_succ]
            refine Rgn.take 1 (v := ?_) rfl (by kernel_rfl) (by kernel_rfl) (by kernel_rfl) (fun _ _ _ h => h) (by kernel_rfl) ?_ (by assumption) ?_
            rotate_left
            · intro w hSw
              (try dsimp only at hSw)
              go_simp
              try with_reducible rfl
            try simp only [Act.put, List.setIfInBounds_toArray, List.set_cons_zero, List.set_cons_succ]
            refine Rgn.take 2 (v := ?_) rfl (by kernel_rfl) (by kernel_rfl) (by kernel_rfl) (fun _ _ _ h => h) (by kernel_rfl) ?_ (by assumption) ?_
            rotate_left
            · intro w hSw
              (try dsimp only at hSw)
              go_simp
              try with_reducible rfl
            try simp only [Act.put, List.setIfInBounds_toArray, List.set_cons_zero, List.set_cons_succ]
            refine Rgn.take 3 (v := ?_) rfl (by kernel_rfl) (by kernel_rfl) (by kernel_rfl) (fun _ _ _ h => h) (by kernel_rfl) ?_ (by assumption) ?_
            rotate_left
            · intro w hSw
              (try dsimp only at hSw)
              go_simp
              try with_reducible rfl
            try simp only [Act.put, List.setIfInBounds_toArray, List.set_cons_zero, List.set_cons_succ]
            refine Rgn.take 4 (v := ?_) rfl (by kernel_rfl) (by kernel_rfl) (by kernel_rfl) (fun _ _ _ h => h) (by kernel_rfl) ?_ (by assumption) ?_
            rotate_left
            · intro w hSw
              (try dsimp only at hSw)
              go_simp
              try with_reducible rfl
            try simp only [Act.put, List.setIfInBounds_toArray, List.set_cons_zero, List.set_cons_succ]
            refine Rgn.take 6 (v := ?_) rfl (by kernel_rfl) (by kernel_rfl) (by kernel_rfl) (fun _ _ _ h => h) (by kernel_rfl) ?_ (by assumption) ?_
            rotate_left
            · intro w hSw
              (try dsimp only at hSw)
              go_simp
              try with_reducible rfl
            try simp only [Act.put, List.setIfInBounds_toArray, List.set_cons_zero, List.set_cons_succ]
            refine Rgn.take 7 (v := ?_) rfl (by kernel_rfl) (by kernel_rfl) (by kernel_rfl) (fun _ _ _ h => h) (by kernel_rfl) ?_ (by assumption) ?_
            rotate_left
            · intro w hSw
              (try dsimp only at hSw)
              go_simp
              try with_reducible rfl
            try simp only [Act.put, List.setIfInBounds_toArray, List.set_cons_zero, List.set_cons_succ]
            refine Rgn.take 8 (v := ?_) rfl (by kernel_rfl) (by kernel_rfl) (by kernel_rfl) (fun _ _ _ h => h) (by kernel_rfl) ?_ (by assumption) ?_
            rotate_left
            · intro w hSw
              (try dsimp only at hSw)
              go_simp
              try with_reducible rfl
            try simp only [Act.put, List.setIfInBounds_toArray, List.set_cons_zero, List.set_cons_succ]
            refine Rgn.one 5 rfl (by kernel_rfl) (fun K hK => ?_)
            go_simp
            refine (K1.out _ _ _ D0.out).mono ?_
            rintro e y1 ⟨rfl, bq⟩
            replace f0 := Kit.cell_below bq f0
            replace f1 := Kit.cell_below bq f1
            replace l0 := Kit.cell_below bq l0
            replace l1 := Kit.cell_below bq l1
            replace l2 := Kit.cell_below bq l2
            replace l3 := Kit.cell_below bq l3
            replace l4 := Kit.cell_below bq l4
            replace l5 := Kit.cell_below bq l5
            replace m0 := Kit.cell_below bq m0
            replace m1 := Kit.cell_below bq m1
            replace m2 := Kit.cell_below bq m2
            replace m3 := Kit.cell_below bq m3
            replace m4 := Kit.cell_below bq m4
            replace m5 := Kit.cell_below bq m5
            replace q0 := Kit.cell_below bq q0
            replace q1 := Kit.cell_below bq q1
            replace q2 := Kit.cell_below bq q2
            replace q3 := Kit.cell_below bq q3
            replace q4 := Kit.cell_below bq q4
            replace q5 := Kit.cell_below bq q5
            have D1 := Lib.hid (Kit.chain D0.out bq)
            clear bq
            go_simp
            refine hK.out _ _ ?_ (fun hHeld => ?_)
            · go_keep
            clear hK K
            try simp only [Act.put, List.setIfInBounds_toArray, List.set_cons_zero, List.set_cons_succ]
            refine Rgn.one 9 rfl (by kernel_rfl) (fun K hK => ?_)
            go_simp
            refine (K2.out _ _ _ D1.out).mono ?_
            rintro e y2 ⟨rfl, bq⟩
            replace f0 := Kit.cell_below bq f0
            replace f1 := Kit.cell_below bq f1
            replace l0 := Kit.cell_below bq l0
            replace l1 := Kit.cell_below bq l1
            replace l2 := Kit.cell_below bq l2
            replace l3 := Kit.cell_below bq l3
            replace l4 := Kit.cell_below bq l4
            replace l5 := Kit.cell_below bq l5
            replace m0 := Kit.cell_below bq m0
            replace m1 := Kit.cell_below bq m1
            replace m2 := Kit.cell_below bq m2
            replace m3 := Kit.cell_below bq m3
            replace m4 := Kit.cell_below bq m4
            replace m5 := Kit.cell_below bq m5
            replace q0 := Kit.cell_below bq q0
            replace q1 := Kit.cell_below bq q1
            replace q2 := Kit.cell_below bq q2
            replace q3 := Kit.cell_below bq q3
            replace q4 := Kit.cell_below bq q4
            replace q5 := Kit.cell_below bq q5
            have D2 := Lib.hid (Kit.chain D1.out bq)
            clear bq
            go_simp
            refine hK.out _ _ ?_ (fun hHeld => ?_)
            · go_keep
            clear hK K
            try simp only [Act.put, List.setIfInBounds_toArray, List.set_cons_zero, List.set_cons_succ]
            refine Rgn.take 10 (v := ?_) rfl (by kernel_rfl) (by kernel_rfl) (by kernel_rfl) (fun _ _ _ h => h) (by kernel_rfl) ?_ (by assumption) ?_
            rotate_left
            · intro w hSw
              (try dsimp only at hSw)
              go_simp
              try with_reducible rfl
            try simp only [Act.put, List.setIfInBounds_toArray, List.set_cons_zero, List.set_cons_succ]
            refine Rgn.take 11 (v := ?_) rfl (by kernel_rfl) (by kernel_rfl) (by kernel_rfl) (fun _ _ _ h => h) (by kernel_rfl) ?_ (by assumption) ?_
            rotate_left
            · intro w hSw
              (try dsimp only at hSw)
              go_simp
              try with_reducible rfl
            try simp only [Act.put, List.setIfInBounds_toArray, List.set_cons_zero, List.set_cons_succ]
            refine Rgn.take 12 (v := ?_) rfl (by kernel_rfl) (by kernel_rfl) (by kernel_rfl) (fun _ _ _ h => h) (by kernel_rfl) ?_ (by assumption) ?_
            rotate_left
            · intro w hSw
              (try dsimp only at hSw)
              go_simp
              try with_reducible rfl
            try simp only [Act.put, List.setIfInBounds_toArray, List.set_cons_zero, List.set_cons_succ]
            refine Rgn.take 13 (v := ?_) rfl (by kernel_rfl) (by kernel_rfl) (by kernel_rfl) (fun _ _ _ h => h) (by kernel_rfl) ?_ (by assumption) ?_
            rotate_left
            · intro w hSw
              (try dsimp only at hSw)
              go_simp
              try with_reducible rfl
            try simp only [Act.put, List.setIfInBounds_toArray, List.set_cons_zero, List.set_cons_succ]
            refine Rgn.take 14 (v := ?_) rfl (by kernel_rfl) (by kernel_rfl) (by kernel_rfl) (fun _ _ _ h => h) (by kernel_rfl) ?_ (by assumption) ?_
            rotate_left
            · intro w hSw
              (try dsimp only at hSw)
              go_simp
              try with_reducible rfl
            try simp only [Act.put, List.setIfInBounds_toArray, List.set_cons_zero, List.set_cons_succ]
            refine Rgn.take 15 (v := ?_) rfl (by kernel_rfl) (by kernel_rfl) (by kernel_rfl) (fun _ _ _ h => h) (by kernel_rfl) ?_ (by assumption) ?_
            rotate_left
            · intro w hSw
              (try dsimp only at hSw)
              go_simp
              try with_reducible rfl
            try simp only [Act.put, List.setIfInBounds_toArray, List.set_cons_zero, List.set_cons_succ]
            refine Rgn.take 17 (v := ?_) rfl (by kernel_rfl) (by kernel_rfl) (by kernel_rfl) (fun _ _ _ h => h) (by kernel_rfl) ?_ (by assumption) ?_
            rotate_left
            · intro w hSw
              (try dsimp only at hSw)
              go_simp
              try with_reducible rfl
            try simp only [Act.put, List.setIfInBounds_toArray, List.set_cons_zero, List.set_cons_succ]
            refine Rgn.take 18 (v := ?_) rfl (by kernel_rfl) (by kernel_rfl) (by kernel_rfl) (fun _ _ _ h => h) (by kernel_rfl) ?_ (by assumption) ?_
            rotate_left
            · intro w hSw
              (try dsimp only at hSw)
              go_simp
              try with_reducible rfl
            try simp only [Act.put, List.setIfInBounds_toArray, List.set_cons_zero, List.set_cons_succ]
            refine Rgn.take 19 (v := ?_) rfl (by kernel_rfl) (by kernel_rfl) (by kernel_rfl) (fun _ _ _ h => h) (by kernel_rfl) ?_ (by assumption) ?_
            rotate_left
            · intro w hSw
              (try dsimp only at hSw)
              go_simp
              try with_reducible rfl
            try simp only [Act.put, List.setIfInBounds_toArray, List.set_cons_zero, List.set_cons_succ]
            refine Rgn.one 16 rfl (by kernel_rfl) (fun K hK => ?_)
            go_simp
            refine (K1.out _ _ _ D2.out).mono ?_
            rintro e y3 ⟨rfl, bq⟩
            replace f0 := Kit.cell_below bq f0
            replace f1 := Kit.cell_below bq f1
            replace l0 := Kit.cell_below bq l0
            replace l1 := Kit.cell_below bq l1
            replace l2 := Kit.cell_below bq l2
            replace l3 := Kit.cell_below bq l3
            replace l4 := Kit.cell_below bq l4
            replace l5 := Kit.cell_below bq l5
            replace m0 := Kit.cell_below bq m0
            replace m1 := Kit.cell_below bq m1
            replace m2 := Kit.cell_below bq m2
            replace m3 := Kit.cell_below bq m3
            replace m4 := Kit.cell_below bq m4
            replace m5 := Kit.cell_below bq m5
            replace q0 := Kit.cell_below bq q0
            replace q1 := Kit.cell_below bq q1
            replace q2 := Kit.cell_below bq q2
            replace q3 := Kit.cell_below bq q3
            replace q4 := Kit.cell_below bq q4
            replace q5 := Kit.cell_below bq q5
            have D3 := Lib.hid (Kit.chain D2.out bq)
            clear bq
            go_simp
            refine hK.out _ _ ?_ (fun hHeld => ?_)
            · go_keep
            clear hK K
            try simp only [Act.put, List.setIfInBounds_toArray, List.set_cons_zero, List.set_cons_succ]
            refine Rgn.one 20 rfl (by kernel_rfl) (fun K hK => ?_)
            go_simp
            refine (K3.out _ _ _ D3.out).mono ?_
            rintro e y4 ⟨rfl, bq⟩
            replace f0 := Kit.cell_below bq f0
            replace f1 := Kit.cell_below bq f1
            replace l0 := Kit.cell_below bq l0
            replace l1 := Kit.cell_below bq l1
            replace l2 := Kit.cell_below bq l2
            replace l3 := Kit.cell_below bq l3
            replace l4 := Kit.cell_below bq l4
            replace l5 := Kit.cell_below bq l5
            replace m0 := Kit.cell_below bq m0
            replace m1 := Kit.cell_below bq m1
            replace m2 := Kit.cell_below bq m2
            replace m3 := Kit.cell_below bq m3
            replace m4 := Kit.cell_below bq m4
            replace m5 := Kit.cell_below bq m5
            replace q0 := Kit.cell_below bq q0
            replace q1 := Kit.cell_below bq q1
            replace q2 := Kit.cell_below bq q2
            replace q3 := Kit.cell_below bq q3
            replace q4 := Kit.cell_below bq q4
            replace q5 := Kit.cell_below bq q5
            have D4 := Lib.hid (Kit.chain D3.out bq)
            clear bq
            go_simp
            refine hK.out _ _ ?_ (fun hHeld => ?_)
            · go_keep
            clear hK K
            try simp only [Act.put, List.setIfInBounds_toArray, List.set_cons_zero, List.set_cons_succ]
            refine Rgn.take 21 (v := ?_) rfl (by kernel_rfl) (by kernel_rfl) (by kernel_rfl) (fun _ _ _ h => h) (by kernel_rfl) ?_ (by assumption) ?_
            rotate_left
            · intro w hSw
              (try dsimp only at hSw)
              go_simp
              try with_reducible rfl
            try simp only [Act.put, List.setIfInBounds_toArray, List.set_cons_zero, List.set_cons_succ]
            refine Rgn.take 22 (v := ?_) rfl (by kernel_rfl) (by kernel_rfl) (by kernel_rfl) (fun _ _ _ h => h) (by kernel_rfl) ?_ (by assumption) ?_
            rotate_left
            · intro w hSw
              (try dsimp only at hSw)
              go_simp
              try with_reducible rfl
            try simp only [Act.put, List.setIfInBounds_toArray, List.set_cons_zero, List.set_cons_succ]
            refine Rgn.take 23 (v := ?_) rfl (by kernel_rfl) (by kernel_rfl) (by kernel_rfl) (fun _ _ _ h => h) (by kernel_rfl) ?_ (by assumption) ?_
            rotate_left
            · intro w hSw
              (try dsimp only at hSw)
              go_simp
              try with_reducible rfl
            try simp only [Act.put, List.setIfInBounds_toArray, List.set_cons_zero, List.set_cons_succ]
            refine wpAnyH_done (by kernel_rfl) ?_ _
            go_wp2_with fail
            go_ret
            exact ⟨by simp, D4.out⟩
            )
      · have hsw := sw1 ah ⟨r0k, r0i⟩ ⟨r1k, r1i⟩ ⟨xk, xi⟩
        have k1 := fun (t : Int) (N : Value) W (hW : Below w.heap.size w W) => Rd.order_calls 2 1 t r0k r0i r1k r1i A2 n2 cap2 ah N W (HAH.out.below hW) (by omega)
        have k2 := fun (t : Int) (N : Value) W (hW : Below w.heap.size w W) => Rd.order_calls 2 1 t r0k r0i xk xi A2 n2 cap2 ah N W (HAH.out.below hW) (by omega)
        have k3 := fun (t : Int) (N : Value) W (hW : Below w.heap.size w W) => Rd.order_calls 0 0 t r0k r0i r0k r0i A2 n2 cap2 ah N W (HAH.out.below hW) (by omega)
        rw [← hsw.1] at k2
        rw [← hsw.2] at k3
        generalize Rd.order 2 1 ah ⟨r0k, r0i⟩ ⟨r1k, r1i⟩ = o1 at *
        have K1 := Lib.hid k1
        have K2 := Lib.hid k2
        have K3 := Lib.hid k3
        clear k1 k2 k3 hsw
        go_wp2_with fail
        first
          | (
            refine gen (fun w' => (w'.cell? ⟨w.heap.size + 3, 0, none⟩ = some (.int .i64 2) ∧ w'.cell? ⟨w.heap.size + 3, 1, none⟩ = some (.int .i64 1) ∧ w'.cell? ⟨w.heap.size + 1, 0, none⟩ = some (.int .i64 lt) ∧ w'.cell? ⟨w.heap.size + 1, 1, none⟩ = some (.int .i64 r0k) ∧ w'.cell? ⟨w.heap.size + 1, 2, none⟩ = some (.int .i64 r0i) ∧ w'.cell? ⟨w.heap.size + 1, 3, none⟩ = some (.int .i64 r1k) ∧ w'.cell? ⟨w.heap.size + 1, 4, none⟩ = some (.int .i64 r1i) ∧ w'.cell? ⟨w.heap.size + 1, 5, none⟩ = some (.slice A n cap) ∧ w'.cell? ⟨w.heap.size + 4, 0, none⟩ = some (.int .i64 lt) ∧ w'.cell? ⟨w.heap.size + 4, 1, none⟩ = some (.int .i64 r0k) ∧ w'.cell? ⟨w.heap.size + 4, 2, none⟩ = some (.int .i64 r0i) ∧ w'.cell? ⟨w.heap.size + 4, 3, none⟩ = some (.int .i64 xk) ∧ w'.cell? ⟨w.heap.size + 4, 4, none⟩ = some (.int .i64 xi) ∧ w'.cell? ⟨w.heap.size + 4, 5, none⟩ = some (.slice A n cap) ∧ w'.cell? ⟨w.heap.size + 5, 0, none⟩ = some (.int .i64 lt) ∧ w'.cell? ⟨w.heap.size + 5, 1, none⟩ = some (.int .i64 r0k) ∧ w'.cell? ⟨w.heap.size + 5, 2, none⟩ = some (.int .i64 r0i) ∧ w'.cell? ⟨w.heap.size + 5, 3, none⟩ = some (.int .i64 r0k) ∧ w'.cell? ⟨w.heap.size + 5, 4, none⟩ = some (.int .i64 r0i) ∧ w'.cell? ⟨w.heap.size + 5, 5, none⟩ = some (.slice A n cap)) ∧ Below w.heap.size w w') ?_ ?_
            · refine ⟨?_, (by (repeat' (first | (refine Below.drew ?_) | (refine Below.alloc ?_ ?_ _) | (exact Below.refl _ _))); all_goals (first | omega | (simp; done) | (simp; omega)))⟩
              (repeat' apply And.intro) <;> (go_simp; done)
            rintro W0 ⟨⟨f0, f1, l0, l1, l2, l3, l4, l5, m0, m1, m2, m3, m4, m5, q0, q1, q2, q3, q4, q5⟩, hB0⟩
            have B0 := Lib.hid hB0
            clear hB0
            refine wp_region_held_drew (S := (fun w' => w'.cell? ⟨w.heap.size + 3, 0, none⟩ = some (.int .i64 2) ∧ w'.cell? ⟨w.heap.size + 3, 1, none⟩ = some (.int .i64 1) ∧ w'.cell? ⟨w.heap.size + 1, 0, none⟩ = some (.int .i64 lt) ∧ w'.cell? ⟨w.heap.size + 1, 1, none⟩ = some (.int .i64 r0k) ∧ w'.cell? ⟨w.heap.size + 1, 2, none⟩ = some (.int .i64 r0i) ∧ w'.cell? ⟨w.heap.size + 1, 3, none⟩ = some (.int .i64 r1k) ∧ w'.cell? ⟨w.heap.size + 1, 4, none⟩ = some (.int .i64 r1i) ∧ w'.cell? ⟨w.heap.size + 1, 5, none⟩ = some (.slice A n cap) ∧ w'.cell? ⟨w.heap.size + 4, 0, none⟩ = some (.int .i64 lt) ∧ w'.cell? ⟨w.heap.size + 4, 1, none⟩ = some (.int .i64 r0k) ∧ w'.cell? ⟨w.heap.size + 4, 2, none⟩ = some (.int .i64 r0i) ∧ w'.cell? ⟨w.heap.size + 4, 3, none⟩ = some (.int .i64 xk) ∧ w'.cell? ⟨w.heap.size + 4, 4, none⟩ = some (.int .i64 xi) ∧ w'.cell? ⟨w.heap.size + 4, 5, none⟩ = some (.slice A n cap) ∧ w'.cell? ⟨w.heap.size + 5, 0, none⟩ = some (.int .i64 lt) ∧ w'.cell? ⟨w.heap.size + 5, 1, none⟩ = some (.int .i64 r0k) ∧ w'.cell? ⟨w.heap.size + 5, 2, none⟩ = some (.int .i64 r0i) ∧ w'.cell? ⟨w.heap.size + 5, 3, none⟩ = some (.int .i64 r0k) ∧ w'.cell? ⟨w.heap.size + 5, 4, none⟩ = some (.int .i64 r0i) ∧ w'.cell? ⟨w.heap.size + 5, 5, none⟩ = some (.slice A n cap))) (by kernel_rfl) ?_ (fun hHeld => ?_)
            · go_keep
            refine Rgn.one 0 rfl (by kernel_rfl) (fun K hK => ?_)
            go_simp
            refine (Rd.awake_calls _).mono ?_
            rintro e y0 ⟨rfl, bq⟩
            replace f0 := Kit.cell_below bq f0
            replace f1 := Kit.cell_below bq f1
            replace l0 := Kit.cell_below bq l0
            replace l1 := Kit.cell_below bq l1
            replace l2 := Kit.cell_below bq l2
            replace l3 := Kit.cell_below bq l3
            replace l4 := Kit.cell_below bq l4
            replace l5 := Kit.cell_below bq l5
            replace m0 := Kit.cell_below bq m0
            replace m1 := Kit.cell_below bq m1
            replace m2 := Kit.cell_below bq m2
            replace m3 := Kit.cell_below bq m3
            replace m4 := Kit.cell_below bq m4
            replace m5 := Kit.cell_below bq m5
            replace q0 := Kit.cell_below bq q0
            replace q1 := Kit.cell_below bq q1
            replace q2 := Kit.cell_below bq q2
            replace q3 := Kit.cell_below bq q3
            replace q4 := Kit.cell_below bq q4
            replace q5 := Kit.cell_below bq q5
            have D0 := Lib.hid (B0.out.drew.trans (bq.mono B0.out.drew.size))
            clear bq
            go_simp
            refine hK.out _ _ ?_ (fun hHeld => ?_)
            · go_keep
            clear hK K
            try simp only [Act.put, List.setIfInBounds_toArray, List.set_cons_zero, List.set_cons_succ]
            refine Rgn.take 1 (v := ?_) rfl (by kernel_rfl) (by kernel_rfl) (by kernel_rfl) (fun _ _ _ h => h) (by kernel_rfl) ?_ (by assumption) ?_
            rotate_left
            · intro w hSw
              (try dsimp only at hSw)
              go_simp
              try with_reducible rfl
            try simp only [Act.put, List.setIfInBounds_toArray, List.set_cons_zero, List.set_cons_succ]
            refine Rgn.take 2 (v := ?_) rfl (by kernel_rfl) (by kernel_rfl) (by kernel_rfl) (fun _ _ _ h => h) (by kernel_rfl) ?_ (by assumption) ?_
            rotate_left
            · intro w hSw
              (try dsimp only at hSw)
              go_simp
              try with_reducible rfl
            try simp only [Act.put, List.setIfInBounds_toArray, List.set_cons_zero, List.set_cons_succ]
            refine Rgn.take 3 (v := ?_) rfl (by kernel_rfl) (by kernel_rfl) (by kernel_rfl) (fun _ _ _ h => h) (by kernel_rfl) ?_ (by assumption) ?_
            rotate_left
            · intro w hSw
              (try dsimp only at hSw)
              go_simp
              try with_reducible rfl
            try simp only [Act.put, List.setIfInBounds_toArray, List.set_cons_zero, List.set_cons_succ]
            refine Rgn.take 4 (v := ?_) rfl (by kernel_rfl) (by kernel_rfl) (by kernel_rfl) (fun _ _ _ h => h) (by kernel_rfl) ?_ (by assumption) ?_
            rotate_left
            · intro w hSw
              (try dsimp only at hSw)
              go_simp
              try with_reducible rfl
            try simp only [Act.put, List.setIfInBounds_toArray, List.set_cons_zero, List.set_cons_succ]
            refine Rgn.take 6 (v := ?_) rfl (by kernel_rfl) (by kernel_rfl) (by kernel_rfl) (fun _ _ _ h => h) (by kernel_rfl) ?_ (by assumption) ?_
            rotate_left
            · intro w hSw
              (try dsimp only at hSw)
              go_simp
              try with_reducible rfl
            try simp only [Act.put, List.setIfInBounds_toArray, List.set_cons_zero, List.set_cons_succ]
            refine Rgn.take 7 (v := ?_) rfl (by kernel_rfl) (by kernel_rfl) (by kernel_rfl) (fun _ _ _ h => h) (by kernel_rfl) ?_ (by assumption) ?_
            rotate_left
            · intro w hSw
              (try dsimp only at hSw)
              go_simp
              try with_reducible rfl
            try simp only [Act.put, List.setIfInBounds_toArray, List.set_cons_zero, List.set_cons_succ]
            refine Rgn.take 8 (v := ?_) rfl (by kernel_rfl) (by kernel_rfl) (by kernel_rfl) (fun _ _ _ h => h) (by kernel_rfl) ?_ (by assumption) ?_
            rotate_left
            · intro w hSw
              (try dsimp only at hSw)
              go_simp
              try with_reducible rfl
            try simp only [Act.put, List.setIfInBounds_toArray, List.set_cons_zero, List.set_cons_succ]
            refine Rgn.one 5 rfl (by kernel_rfl) (fun K hK => ?_)
            go_simp
            refine (K1.out _ _ _ D0.out).mono ?_
            rintro e y1 ⟨rfl, bq⟩
            replace f0 := Kit.cell_below bq f0
            replace f1 := Kit.cell_below bq f1
            replace l0 := Kit.cell_below bq l0
            replace l1 := Kit.cell_below bq l1
            replace l2 := Kit.cell_below bq l2
            replace l3 := Kit.cell_below bq l3
            replace l4 := Kit.cell_below bq l4
            replace l5 := Kit.cell_below bq l5
            replace m0 := Kit.cell_below bq m0
            replace m1 := Kit.cell_below bq m1
            replace m2 := Kit.cell_below bq m2
            replace m3 := Kit.cell_below bq m3
            replace m4 := Kit.cell_below bq m4
            replace m5 := Kit.cell_below bq m5
            replace q0 := Kit.cell_below bq q0
            replace q1 := Kit.cell_below bq q1
            replace q2 := Kit.cell_below bq q2
            replace q3 := Kit.cell_below bq q3
            replace q4 := Kit.cell_below bq q4
            replace q5 := Kit.cell_below bq q5
            have D1 := Lib.hid (Kit.chain D0.out bq)
            clear bq
            go_simp
            refine hK.out _ _ ?_ (fun hHeld => ?_)
            · go_keep
            clear hK K
            try simp only [Act.put, List.setIfInBounds_toArray, List.set_cons_zero, List.set_cons_succ]
            refine Rgn.one 9 rfl (by kernel_rfl) (fun K hK => ?_)
            go_simp
            refine (K2.out _ _ _ D1.out).mono ?_
            rintro e y2 ⟨rfl, bq⟩
            replace f0 := Kit.cell_below bq f0
            replace f1 := Kit.cell_below bq f1
            replace l0 := Kit.cell_below bq l0
            replace l1 := Kit.cell_below bq l1
            replace l2 := Kit.cell_below bq l2
            replace l3 := Kit.cell_below bq l3
            replace l4 := Kit.cell_below bq l4
            replace l5 := Kit.cell_below bq l5
            replace m0 := Kit.cell_below bq m0
            replace m1 := Kit.cell_below bq m1
            replace m2 := Kit.cell_below bq m2
            replace m3 := Kit.cell_below bq m3
            replace m4 := Kit.cell_below bq m4
            replace m5 := Kit.cell_below bq m5
            replace q0 := Kit.cell_below bq q0
            replace q1 := Kit.cell_below bq q1
            replace q2 := Kit.cell_below bq q2
            replace q3 := Kit.cell_below bq q3
            replace q4 := Kit.cell_below bq q4
            replace q5 := Kit.cell_below bq q5
            have D2 := Lib.hid (Kit.chain D1.out bq)
            clear bq
            go_simp
            refine hK.out _ _ ?_ (fun hHeld => ?_)
            · go_keep
            clear hK K
            try simp only [Act.put, List.setIfInBounds_toArray, List.set_cons_zero, List.set_cons_succ]
            refine Rgn.take 10 (v := ?_) rfl (by kernel_rfl) (by kernel_rfl) (by kernel_rfl) (fun _ _ _ h => h) (by kernel_rfl) ?_ (by assumption) ?_
            rotate_left
            · intro w hSw
              (try dsimp only at hSw)
              go_simp
              try with_reducible rfl
            try simp only [Act.put, List.setIfInBounds_toArray, List.set_cons_zero, List.set_cons_succ]
            refine Rgn.take 11 (v := ?_) rfl (by kernel_rfl) (by kernel_rfl) (by kernel_rfl) (fun _ _ _ h => h) (by kernel_rfl) ?_ (by assumption) ?_
            rotate_left
            · intro w hSw
              (try dsimp only at hSw)
              go_simp
              try with_reducible rfl
            try simp only [Act.put, List.setIfInBounds_toArray, List.set_cons_zero, List.set_cons_succ]
            refine Rgn.take 12 (v := ?_) rfl (by kernel_rfl) (by kernel_rfl) (by kernel_rfl) (fun _ _ _ h => h) (by kernel_rfl) ?_ (by assumption) ?_
            rotate_left
            · intro w hSw
              (try dsimp only at hSw)
              go_simp
              try with_reducible rfl
            try simp only [Act.put, List.setIfInBounds_toArray, List.set_cons_zero, List.set_cons_succ]
            refine Rgn.take 13 (v := ?_) rfl (by kernel_rfl) (by kernel_rfl) (by kernel_rfl) (fun _ _ _ h => h) (by kernel_rfl) ?_ (by assumption) ?_
            rotate_left
            · intro w hSw
              (try dsimp only at hSw)
              go_simp
              try with_reducible rfl
            try simp only [Act.put, List.setIfInBounds_toArray, List.set_cons_zero, List.set_cons_succ]
            refine Rgn.take 14 (v := ?_) rfl (by kernel_rfl) (by kernel_rfl) (by kernel_rfl) (fun _ _ _ h => h) (by kernel_rfl) ?_ (by assumption) ?_
            rotate_left
            · intro w hSw
              (try dsimp only at hSw)
              go_simp
              try with_reducible rfl
            try simp only [Act.put, List.setIfInBounds_toArray, List.set_cons_zero, List.set_cons_succ]
            refine Rgn.take 15 (v := ?_) rfl (by kernel_rfl) (by kernel_rfl) (by kernel_rfl) (fun _ _ _ h => h) (by kernel_rfl) ?_ (by assumption) ?_
            rotate_left
            · intro w hSw
              (try dsimp only at hSw)
              go_simp
              try with_reducible rfl
            try simp only [Act.put, List.setIfInBounds_toArray, List.set_cons_zero, List.set_cons_succ]
            refine Rgn.take 17 (v := ?_) rfl (by kernel_rfl) (by kernel_rfl) (by kernel_rfl) (fun _ _ _ h => h) (by kernel_rfl) ?_ (by assumption) ?_
            rotate_left
            · intro w hSw
              (try dsimp only at hSw)
              go_simp
              try with_reducible rfl
            try simp only [Act.put, List.setIfInBounds_toArray, List.set_cons_zero, List.set_cons_succ]
            refine Rgn.take 18 (v := ?_) rfl (by kernel_rfl) (by kernel_rfl) (by kernel_rfl) (fun _ _ _ h => h) (by kernel_rfl) ?_ (by assumption) ?_
            rotate_left
            · intro w hSw
              (try dsimp only at hSw)
              go_simp
              try with_reducible rfl
            try simp only [Act.put, List.setIfInBounds_toArray, List.set_cons_zero, List.set_cons_succ]
            refine Rgn.take 19 (v := ?_) rfl (by kernel_rfl) (by kernel_rfl) (by kernel_rfl) (fun _ _ _ h => h) (by kernel_rfl) ?_ (by assumption) ?_
            rotate_left
            · intro w hSw
              (try dsimp only at hSw)
              go_simp
              try with_reducible rfl
            try simp only [Act.put, List.setIfInBounds_toArray, List.set_cons_zero, List.set_cons_succ]
            refine Rgn.one 16 rfl (by kernel_rfl) (fun K hK => ?_)
            go_simp
            refine (K1.out _ _ _ D2.out).mono ?_
            rintro e y3 ⟨rfl, bq⟩
            replace f0 := Kit.cell_below bq f0
            replace f1 := Kit.cell_below bq f1
            replace l0 := Kit.cell_below bq l0
            replace l1 := Kit.cell_below bq l1
            replace l2 := Kit.cell_below bq l2
            replace l3 := Kit.cell_below bq l3
            replace l4 := Kit.cell_below bq l4
            replace l5 := Kit.cell_below bq l5
            replace m0 := Kit.cell_below bq m0
            replace m1 := Kit.cell_below bq m1
            replace m2 := Kit.cell_below bq m2
            replace m3 := Kit.cell_below bq m3
            replace m4 := Kit.cell_below bq m4
            replace m5 := Kit.cell_below bq m5
            replace q0 := Kit.cell_below bq q0
            replace q1 := Kit.cell_below bq q1
            replace q2 := Kit.cell_below bq q2
            replace q3 := Kit.cell_below bq q3
            replace q4 := Kit.cell_below bq q4
            replace q5 := Kit.cell_below bq q5
            have D3 := Lib.hid (Kit.chain D2.out bq)
            clear bq
            go_simp
            refine hK.out _ _ ?_ (fun hHeld => ?_)
            · go_keep
            clear hK K
            try simp only [Act.put, List.setIfInBounds_toArray, List.set_cons_zero, List.set_cons_succ]
            refine Rgn.one 20 rfl (by kernel_rfl) (fun K hK => ?_)
            go_simp
            refine (K3.out _ _ _ D3.out).mono ?_
            rintro e y4 ⟨rfl, bq⟩
            replace f0 := Kit.cell_below bq f0
            replace f1 := Kit.cell_below bq f1
            replace l0 := Kit.cell_below bq l0
            replace l1 := Kit.cell_below bq l1
            replace l2 := Kit.cell_below bq l2
            replace l3 := Kit.cell_below bq l3
            replace l4 := Kit.cell_below bq l4
            replace l5 := Kit.cell_below bq l5
            replace m0 := Kit.cell_below bq m0
            replace m1 := Kit.cell_below bq m1
            replace m2 := Kit.cell_below bq m2
            replace m3 := Kit.cell_below bq m3
            replace m4 := Kit.cell_below bq m4
            replace m5 := Kit.cell_below bq m5
            replace q0 := Kit.cell_below bq q0
            replace q1 := Kit.cell_below bq q1
            replace q2 := Kit.cell_below bq q2
            replace q3 := Kit.cell_below bq q3
            replace q4 := Kit.cell_below bq q4
            replace q5 := Kit.cell_below bq q5
            have D4 := Lib.hid (Kit.chain D3.out bq)
            clear bq
            go_simp
            refine hK.out _ _ ?_ (fun hHeld => ?_)
            · go_keep
            clear hK K
            try simp only [Act.put, List.setIfInBounds_toArray, List.set_cons_zero, List.set_cons_succ]
            refine Rgn.take 21 (v := ?_) rfl (by kernel_rfl) (by kernel_rfl) (by kernel_rfl) (fun _ _ _ h => h) (by kernel_rfl) ?_ (by assumption) ?_
            rotate_left
            · intro w hSw
              (try dsimp only at hSw)
              go_simp
              try with_reducible rfl
            try simp only [Act.put, List.setIfInBounds_toArray, List.set_cons_zero, List.set_cons_succ]
            refine Rgn.take 22 (v := ?_) rfl (by kernel_rfl) (by kernel_rfl) (by kernel_rfl) (fun _ _ _ h => h) (by kernel_rfl) ?_ (by assumption) ?_
            rotate_left
            · intro w hSw
              (try dsimp only at hSw)
              go_simp
              try with_reducible rfl
            try simp only [Act.put, List.setIfInBounds_toArray, List.set_cons_zero, List.set_cons_succ]
            refine Rgn.take 23 (v := ?_) rfl (by kernel_rfl) (by kernel_rfl) (by kernel_rfl) (fun _ _ _ h => h) (by kernel_rfl) ?_ (by assumption) ?_
            rotate_left
            · intro w hSw
              (try dsimp only at hSw)
              go_simp
              try with_reducible rfl
            try simp only [Act.put, List.setIfInBounds_toArray, List.set_cons_zero, List.set_cons_succ]
            refine wpAnyH_done (by kernel_rfl) ?_ _
            go_wp2_with fail
            go_ret
            exact ⟨by simp, D4.out⟩
            )
          | (
            refine gen (fun w' => (w'.cell? ⟨w.heap.size + 3, 0, none⟩ = some (.int .i64 2) ∧ w'.cell? ⟨w.heap.size + 3, 1, none⟩ = some (.int .i64 1) ∧ w'.cell? ⟨w.heap.size + 2, 0, none⟩ = some (.int .i64 lt) ∧ w'.cell? ⟨w.heap.size + 2, 1, none⟩ = some (.int .i64 r0k) ∧ w'.cell? ⟨w.heap.size + 2, 2, none⟩ = some (.int .i64 r0i) ∧ w'.cell? ⟨w.heap.size + 2, 3, none⟩ = some (.int .i64 r1k) ∧ w'.cell? ⟨w.heap.size + 2, 4, none⟩ = some (.int .i64 r1i) ∧ w'.cell? ⟨w.heap.size + 2, 5, none⟩ = some (.slice A n cap) ∧ w'.cell? ⟨w.heap.size + 4, 0, none⟩ = some (.int .i64 lt) ∧ w'.cell? ⟨w.heap.size + 4, 1, none⟩ = some (.int .i64 r0k) ∧ w'.cell? ⟨w.heap.size + 4, 2, none⟩ = some (.int .i64 r0i) ∧ w'.cell? ⟨w.heap.size + 4, 3, none⟩ = some (.int .i64 xk) ∧ w'.cell? ⟨w.heap.size + 4, 4, none⟩ = some (.int .i64 xi) ∧ w'.cell? ⟨w.heap.size + 4, 5, none⟩ = some (.slice A n cap) ∧ w'.cell? ⟨w.heap.size + 5, 0, none⟩ = some (.int .i64 lt) ∧ w'.cell? ⟨w.heap.size + 5, 1, none⟩ = some (.int .i64 r0k) ∧ w'.cell? ⟨w.heap.size + 5, 2, none⟩ = some (.int .i64 r0i) ∧ w'.cell? ⟨w.heap.size + 5, 3, none⟩ = some (.int .i64 r0k) ∧ w'.cell? ⟨w.heap.size + 5, 4, none⟩ = some (.int .i64 r0i) ∧ w'.cell? ⟨w.heap.size + 5, 5, none⟩ = some (.slice A n cap)) ∧ Below w.heap.size w w') ?_ ?_
            · refine ⟨?_, (by (repeat' (first | (refine Below.drew ?_) | (refine Below.alloc ?_ ?_ _) | (exact Below.refl _ _))); all_goals (first | omega | (simp; done) | (simp; omega)))⟩
              (repeat' apply And.intro) <;> (go_simp; done)
            rintro W0 ⟨⟨f0, f1, l0, l1, l2, l3, l4, l5, m0, m1, m2, m3, m4, m5, q0, q1, q2, q3, q4, q5⟩, hB0⟩
            have B0 := Lib.hid hB0
            clear hB0
            refine wp_region_held_drew (S := (fun w' => w'.cell? ⟨w.heap.size + 3, 0, none⟩ = some (.int .i64 2) ∧ w'.cell? ⟨w.heap.size + 3, 1, none⟩ = some (.int .i64 1) ∧ w'.cell? ⟨w.heap.size + 2, 0, none⟩ = some (.int .i64 lt) ∧ w'.cell? ⟨w.heap.size + 2, 1, none⟩ = some (.int .i64 r0k) ∧ w'.cell? ⟨w.heap.size + 2, 2, none⟩ = some (.int .i64 r0i) ∧ w'.cell? ⟨w.heap.size + 2, 3, none⟩ = some (.int .i64 r1k) ∧ w'.cell? ⟨w.heap.size + 2, 4, none⟩ = some (.int .i64 r1i) ∧ w'.cell? ⟨w.heap.size + 2, 5, none⟩ = some (.slice A n cap) ∧ w'.cell? ⟨w.heap.size + 4, 0, none⟩ = some (.int .i64 lt) ∧ w'.cell? ⟨w.heap.size + 4, 1, none⟩ = some (.int .i64 r0k) ∧ w'.cell? ⟨w.heap.size + 4, 2, none⟩ = some (.int .i64 r0i) ∧ w'.cell? ⟨w.heap.size + 4, 3, none⟩ = some (.int .i64 xk) ∧ w'.cell? ⟨w.heap.size + 4, 4, none⟩ = some (.int .i64 xi) ∧ w'.cell? ⟨w.heap.size + 4, 5, none⟩ = some (.slice A n cap) ∧ w'.cell? ⟨w.heap.size + 5, 0, none⟩ = some (.int .i64 lt) ∧ w'.cell? ⟨w.heap.size + 5, 1, none⟩ = some (.int .i64 r0k) ∧ w'.cell? ⟨w.heap.size + 5, 2, none⟩ = some (.int .i64 r0i) ∧ w'.cell? ⟨w.heap.size + 5, 3, none⟩ = some (.int .i64 r0k) ∧ w'.cell? ⟨w.heap.size + 5, 4, none⟩ = some (.int .i64 r0i) ∧ w'.cell? ⟨w.heap.size + 5, 5, none⟩ = some (.slice A n cap))) (by kernel_rfl) ?_ (fun hHeld => ?_)
            · go_keep
            refine Rgn.one 0 rfl (by kernel_rfl) (fun K hK => ?_)
            go_simp
            refine (Rd.awake_calls _).mono ?_
            rintro e y0 ⟨rfl, bq⟩
            replace f0 := Kit.cell_below bq f0
            replace f1 := Kit.cell_below bq f1
            replace l0 := Kit.cell_below bq l0
            replace l1 := Kit.cell_below bq l1
            replace l2 := Kit.cell_below bq l2
            replace l3 := Kit.cell_below bq l3
            replace l4 := Kit.cell_below bq l4
            replace l5 := Kit.cell_below bq l5
            replace m0 := Kit.cell_below bq m0
            replace m1 := Kit.cell_below bq m1
            replace m2 := Kit.cell_below bq m2
            replace m3 := Kit.cell_below bq m3
            replace m4 := Kit.cell_below bq m4
            replace m5 := Kit.cell_below bq m5
            replace q0 := Kit.cell_below bq q0
            replace q1 := Kit.cell_below bq q1
            replace q2 := Kit.cell_below bq q2
            replace q3 := Kit.cell_below bq q3
            replace q4 := Kit.cell_below bq q4
            replace q5 := Kit.cell_below bq q5
            have D0 := Lib.hid (B0.out.drew.trans (bq.mono B0.out.drew.size))
            clear bq
            go_simp
            refine hK.out _ _ ?_ (fun hHeld => ?_)
            · go_keep
            clear hK K
            try simp only [Act.put, List.setIfInBounds_toArray, List.set_cons_zero, List.set_cons_succ]
            refine Rgn.take 1 (v := ?_) rfl (by kernel_rfl) (by kernel_rfl) (by kernel_rfl) (fun _ _ _ h => h) (by kernel_rfl) ?_ (by assumption) ?_
            rotate_left
            · intro w hSw
              (try dsimp only at hSw)
              go_simp
              try with_reducible rfl
            try simp only [Act.put, List.setIfInBounds_toArray, List.set_cons_zero, List.set_cons_succ]
            refine Rgn.take 2 (v := ?_) rfl (by kernel_rfl) (by kernel_rfl) (by kernel_rfl) (fun _ _ _ h => h) (by kernel_rfl) ?_ (by assumption) ?_
            rotate_left
            · intro w hSw
              (try dsimp only at hSw)
              go_simp
              try with_reducible rfl
            try simp only [Act.put, List.setIfInBounds_toArray, List.set_cons_zero, List.set_cons_succ]
            refine Rgn.take 3 (v := ?_) rfl (by kernel_rfl) (by kernel_rfl) (by kernel_rfl) (fun _ _ _ h => h) (by kernel_rfl) ?_ (by assumption) ?_
            rotate_left
            · intro w hSw
              (try dsimp only at hSw)
              go_simp
              try with_reducible rfl
            try simp only [Act.put, List.setIfInBounds_toArray, List.set_cons_zero, List.set_cons_succ]
            refine Rgn.take 4 (v := ?_) rfl (by kernel_rfl) (by kernel_rfl) (by kernel_rfl) (fun _ _ _ h => h) (by kernel_rfl) ?_ (by assumption) ?_
            rotate_left
            · intro w hSw
              (try dsimp only at hSw)
              go_simp
              try with_reducible rfl
            try simp only [Act.put, List.setIfInBounds_toArray, List.set_cons_zero, List.set_cons_succ]
            refine Rgn.take 6 (v := ?_) rfl (by kernel_rfl) (by kernel_rfl) (by kernel_rfl) (fun _ _ _ h => h) (by kernel_rfl) ?_ (by assumption) ?_
            rotate_left
            · intro w hSw
              (try dsimp only at hSw)
              go_simp
              try with_reducible rfl
            try simp only [Act.put, List.setIfInBounds_toArray, List.set_cons_zero, List.set_cons_succ]
            refine Rgn.take 7 (v := ?_) rfl (by kernel_rfl) (by kernel_rfl) (by kernel_rfl) (fun _ _ _ h => h) (by kernel_rfl) ?_ (by assumption) ?_
            rotate_left
            · intro w hSw
              (try dsimp only at hSw)
              go_simp
              try with_reducible rfl
            try simp only [Act.put, List.setIfInBounds_toArray, List.set_cons_zero, List.set_cons_succ]
            refine Rgn.take 8 (v := ?_) rfl (by kernel_rfl) (by kernel_rfl) (by kernel_rfl) (fun _ _ _ h => h) (by kernel_rfl) ?_ (by assumption) ?_
            rotate_left
            · intro w hSw
              (try dsimp only at hSw)
              go_simp
              try with_reducible rfl
            try simp only [Act.put, List.setIfInBounds_toArray, List.set_cons_zero, List.set_cons_succ]
            refine Rgn.one 5 rfl (by kernel_rfl) (fun K hK => ?_)
            go_simp
            refine (K1.out _ _ _ D0.out).mono ?_
            rintro e y1 ⟨rfl, bq⟩
            replace f0 := Kit.cell_below bq f0
            replace f1 := Kit.cell_below bq f1
            replace l0 := Kit.cell_below bq l0
            replace l1 := Kit.cell_below bq l1
            replace l2 := Kit.cell_below bq l2
            replace l3 := Kit.cell_below bq l3
            replace l4 := Kit.cell_below bq l4
            replace l5 := Kit.cell_below bq l5
            replace m0 := Kit.cell_below bq m0
            replace m1 := Kit.cell_below bq m1
            replace m2 := Kit.cell_below bq m2
            replace m3 := Kit.cell_below bq m3
            replace m4 := Kit.cell_below bq m4
            replace m5 := Kit.cell_below bq m5
            replace q0 := Kit.cell_below bq q0
            replace q1 := Kit.cell_below bq q1
            replace q2 := Kit.cell_below bq q2
            replace q3 := Kit.cell_below bq q3
            replace q4 := Kit.cell_below bq q4
            replace q5 := Kit.cell_below bq q5
            have D1 := Lib.hid (Kit.chain D0.out bq)
            clear bq
            go_simp
            refine hK.out _ _ ?_ (fun hHeld => ?_)
            · go_keep
            clear hK K
            try simp only [Act.put, List.setIfInBounds_toArray, List.set_cons_zero, List.set_cons_succ]
            refine Rgn.one 9 rfl (by kernel_rfl) (fun K hK => ?_)
            go_simp
            refine (K2.out _ _ _ D1.out).mono ?_
            rintro e y2 ⟨rfl, bq⟩
            replace f0 := Kit.cell_below bq f0
            replace f1 := Kit.cell_below bq f1
            replace l0 := Kit.cell_below bq l0
            replace l1 := Kit.cell_below bq l1
            replace l2 := Kit.cell_below bq l2
            replace l3 := Kit.cell_below bq l3
            replace l4 := Kit.cell_below bq l4
            replace l5 := Kit.cell_below bq l5
            replace m0 := Kit.cell_below bq m0
            replace m1 := Kit.cell_below bq m1
            replace m2 := Kit.cell_below bq m2
            replace m3 := Kit.cell_below bq m3
            replace m4 := Kit.cell_below bq m4
            replace m5 := Kit.cell_below bq m5
            replace q0 := Kit.cell_below bq q0
            replace q1 := Kit.cell_below bq q1
            replace q2 := Kit.cell_below bq q2
            replace q3 := Kit.cell_below bq q3
            replace q4 := Kit.cell_below bq q4
            replace q5 := Kit.cell_below bq q5
            have D2 := Lib.hid (Kit.chain D1.out bq)
            clear bq
            go_simp
            refine hK.out _ _ ?_ (fun hHeld => ?_)
            · go_keep
            clear hK K
            try simp only [Act.put, List.setIfInBounds_toArray, List.set_cons_zero, List.set_cons_succ]
            refine Rgn.take 10 (v := ?_) rfl (by kernel_rfl) (by kernel_rfl) (by kernel_rfl) (fun _ _ _ h => h) (by kernel_rfl) ?_ (by assumption) ?_
            rotate_left
            · intro w hSw
              (try dsimp only at hSw)
              go_simp
              try with_reducible rfl
            try simp only [Act.put, List.setIfInBounds_toArray, List.set_cons_zero, List.set_cons_succ]
            refine Rgn.take 11 (v := ?_) rfl (by kernel_rfl) (by kernel_rfl) (by kernel_rfl) (fun _ _ _ h => h) (by kernel_rfl) ?_ (by assumption) ?_
            rotate_left
            · intro w hSw
              (try dsimp only at hSw)
              go_simp
              try with_reducible rfl
            try simp only [Act.put, List.setIfInBounds_toArray, List.set_cons_zero, List.set_cons_succ]
            refine Rgn.take 12 (v := ?_) rfl (by kernel_rfl) (by kernel_rfl) (by kernel_rfl) (fun _ _ _ h => h) (by kernel_rfl) ?_ (by assumption) ?_
            rotate_left
            · intro w hSw
              (try dsimp only at hSw)
              go_simp
              try with_reducible rfl
            try simp only [Act.put, List.setIfInBounds_toArray, List.set_cons_zero, List.set_cons_succ]
            refine Rgn.take 13 (v := ?_) rfl (by kernel_rfl) (by kernel_rfl) (by kernel_rfl) (fun _ _ _ h => h) (by kernel_rfl) ?_ (by assumption) ?_
            rotate_left
            · intro w hSw
              (try dsimp only at hSw)
              go_simp
              try with_reducible rfl
            try simp only [Act.put, List.setIfInBounds_toArray, List.set_cons_zero, List.set_cons_succ]
            refine Rgn.take 14 (v := ?_) rfl (by kernel_rfl) (by kernel_rfl) (by kernel_rfl) (fun _ _ _ h => h) (by kernel_rfl) ?_ (by assumption) ?_
            rotate_left
            · intro w hSw
              (try dsimp only at hSw)
              go_simp
              try with_reducible rfl
            try simp only [Act.put, List.setIfInBounds_toArray, List.set_cons_zero, List.set_cons_succ]
            refine Rgn.take 15 (v := ?_) rfl (by kernel_rfl) (by kernel_rfl) (by kernel_rfl) (fun _ _ _ h => h) (by kernel_rfl) ?_ (by assumption) ?_
            rotate_left
            · intro w hSw
              (try dsimp only at hSw)
              go_simp
              try with_reducible rfl
            try simp only [Act.put, List.setIfInBounds_toArray, List.set_cons_zero, List.set_cons_succ]
            refine Rgn.take 17 (v := ?_) rfl (by kernel_rfl) (by kernel_rfl) (by kernel_rfl) (fun _ _ _ h => h) (by kernel_rfl) ?_ (by assumption) ?_
            rotate_left
            · intro w hSw
              (try dsimp only at hSw)
              go_simp
              try with_reducible rfl
            try simp only [Act.put, List.setIfInBounds_toArray, List.set_cons_zero, List.set_cons_succ]
            refine Rgn.take 18 (v := ?_) rfl (by kernel_rfl) (by kernel_rfl) (by kernel_rfl) (fun _ _ _ h => h) (by kernel_rfl) ?_ (by assumption) ?_
            rotate_left
            · intro w hSw
              (try dsimp only at hSw)
              go_simp
              try with_reducible rfl
            try simp only [Act.put, List.setIfInBounds_toArray, List.set_cons_zero, List.set_cons_succ]
            refine Rgn.take 19 (v := ?_) rfl (by kernel_rfl) (by kernel_rfl) (by kernel_rfl) (fun _ _ _ h => h) (by kernel_rfl) ?_ (by assumption) ?_
            rotate_left
            · intro w hSw
              (try dsimp only at hSw)
              go_simp
              try with_reducible rfl
            try simp only [Act.put, List.setIfInBounds_toArray, List.set_cons_zero, List.set_cons_succ]
            refine Rgn.one 16 rfl (by kernel_rfl) (fun K hK => ?_)
            go_simp
            refine (K1.out _ _ _ D2.out).mono ?_
            rintro e y3 ⟨rfl, bq⟩
            replace f0 := Kit.cell_below bq f0
            replace f1 := Kit.cell_below bq f1
            replace l0 := Kit.cell_below bq l0
            replace l1 := Kit.cell_below bq l1
            replace l2 := Kit.cell_below bq l2
            replace l3 := Kit.cell_below bq l3
            replace l4 := Kit.cell_below bq l4
            replace l5 := Kit.cell_below bq l5
            replace m0 := Kit.cell_below bq m0
            replace m1 := Kit.cell_below bq m1
            replace m2 := Kit.cell_below bq m2
            replace m3 := Kit.cell_below bq m3
            replace m4 := Kit.cell_below bq m4
            replace m5 := Kit.cell_below bq m5
            replace q0 := Kit.cell_below bq q0
            replace q1 := Kit.cell_below bq q1
            replace q2 := Kit.cell_below bq q2
            replace q3 := Kit.cell_below bq q3
            replace q4 := Kit.cell_below bq q4
            replace q5 := Kit.cell_below bq q5
            have D3 := Lib.hid (Kit.chain D2.out bq)
            clear bq
            go_simp
            refine hK.out _ _ ?_ (fun hHeld => ?_)
            · go_keep
            clear hK K
            try simp only [Act.put, List.setIfInBounds_toArray, List.set_cons_zero, List.set_cons_succ]
            refine Rgn.one 20 rfl (by kernel_rfl) (fun K hK => ?_)
            go_simp
            refine (K3.out _ _ _ D3.out).mono ?_
            rintro e y4 ⟨rfl, bq⟩
            replace f0 := Kit.cell_below bq f0
            replace f1 := Kit.cell_below bq f1
            replace l0 := Kit.cell_below bq l0
            replace l1 := Kit.cell_below bq l1
            replace l2 := Kit.cell_below bq l2
            replace l3 := Kit.cell_below bq l3
            replace l4 := Kit.cell_below bq l4
            replace l5 := Kit.cell_below bq l5
            replace m0 := Kit.cell_below bq m0
            replace m1 := Kit.cell_below bq m1
            replace m2 := Kit.cell_below bq m2
            replace m3 := Kit.cell_below bq m3
            replace m4 := Kit.cell_below bq m4
            replace m5 := Kit.cell_below bq m5
            replace q0 := Kit.cell_below bq q0
            replace q1 := Kit.cell_below bq q1
            replace q2 := Kit.cell_below bq q2
            replace q3 := Kit.cell_below bq q3
            replace q4 := Kit.cell_below bq q4
            replace q5 := Kit.cell_below bq q5
            have D4 := Lib.hid (Kit.chain D3.out bq)
            clear bq
            go_simp
            refine hK.out _ _ ?_ (fun hHeld => ?_)
            · go_keep
            clear hK K
            try simp only [Act.put, List.setIfInBounds_toArray, List.set_cons_zero, List.set_cons_succ]
            refine Rgn.take 21 (v := ?_) rfl (by kernel_rfl) (by kernel_rfl) (by kernel_rfl) (fun _ _ _ h => h) (by kernel_rfl) ?_ (by assumption) ?_
            rotate_left
            · intro w hSw
              (try dsimp only at hSw)
              go_simp
              try with_reducible rfl
            try simp only [Act.put, List.setIfInBounds_toArray, List.set_cons_zero, List.set_cons_succ]
            refine Rgn.take 22 (v := ?_) rfl (by kernel_rfl) (by kernel_rfl) (by kernel_rfl) (fun _ _ _ h => h) (by kernel_rfl) ?_ (by assumption) ?_
            rotate_left
            · intro w hSw
              (try dsimp only at hSw)
              go_simp
              try with_reducible rfl
            try simp only [Act.put, List.setIfInBounds_toArray, List.set_cons_zero, List.set_cons_succ]
            refine Rgn.take 23 (v := ?_) rfl (by kernel_rfl) (by kernel_rfl) (by kernel_rfl) (fun _ _ _ h => h) (by kernel_rfl) ?_ (by assumption) ?_
            rotate_left
            · intro w hSw
              (try dsimp only at hSw)
              go_simp
              try with_reducible rfl
            try simp only [Act.put, List.setIfInBounds_toArray, List.set_cons_zero, List.set_cons_succ]
            refine wpAnyH_done (by kernel_rfl) ?_ _
            go_wp2_with fail
            go_ret
            exact ⟨by simp, D4.out⟩
            )
    · by_cases h2 : n2 ≤ 20
      · have g20 : decide ((20 : Int) < (n2 : Int)) = false := by simp; omega
        have g21 : decide ((20 : Int) < (n : Int)) = true := by simp; omega
        clear h20
        go_wp2_with fail
        refine (Rd.awake_calls _).mono ?_
        rintro e wA ⟨rfl, bA⟩
        go_wp2_with fail
        go_ret
        exact ⟨rfl, Kit.chain (by (repeat' (first | (refine Below.drew ?_) | (refine Below.alloc ?_ ?_ _) | (exact Below.refl _ _))); all_goals (first | omega | (simp; done) | (simp; omega))) bA⟩
      · have g20 : decide ((20 : Int) < (n2 : Int)) = true := by simp; omega
        clear h20
        go_wp2_with fail
        refine (Rd.awake_calls _).mono ?_
        rintro e wA ⟨rfl, bA⟩
        go_wp2_with fail
        go_ret
        exact ⟨rfl, Kit.chain (by (repeat' (first | (refine Below.drew ?_) | (refine Below.alloc ?_ ?_ _) | (exact Below.refl _ _))); all_goals (first | omega | (simp; done) | (simp; omega))) bA⟩

theorem walk (v : Value) {w : World} (w0 : Op.IsSwap w v) (w' : World) (hw : w' = w := by rfl) :
    Calls Try.prog 20 #[v] w fun e w' => e = .returned (.bool true) ∧ Below w.heap.size w w' := by
  obtain ⟨who, x, lt, r0k, r0i, r1k, r1i, y, xk, xi, rfl, _, hx, _, _, _, _, _, hy, _⟩ := w0
  obtain ⟨A2, n2, cap2, ah, rfl, hm2, hah, _⟩ := hx
  obtain ⟨A, n, cap, l, rfl, hm, hl, _⟩ := hy
  unfold maxLen at hm hm2
  exact walk1 who A2 A n2 cap2 n cap lt r0k r0i r1k r1i xk xi ah w hah (by omega) (by omega)
end Go.Proofs.Ytpbkoooljelhjaa.RoundFaulty
