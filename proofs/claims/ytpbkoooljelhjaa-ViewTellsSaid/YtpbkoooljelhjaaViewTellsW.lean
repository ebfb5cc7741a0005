/-
  ViewTells: the walk of the statement's own function.
-/
import Derived.Test.YtpbkoooljelhjaaVw8
import Derived.Test.YtpbkoooljelhjaaOp1
import Derived.Test.YtpbkoooljelhjaaKit1
import Derived.Deep.RegionHeld3
namespace Go.Proofs.Ytpbkoooljelhjaa.ViewTells
set_option linter.unusedVariables false
set_option linter.unusedSimpArgs false
open Go.RowKit

theorem eq4 (a b c d : Int) (w : World) : (binOp .eql 42 (.agg #[.int .i64 a, .int .i64 b, .int .i64 c, .int .i64 d]) (.agg #[.int .i64 a, .int .i64 b, .int .i64 c, .int .i64 d])).run Try.prog w = .ok (.bool true) w := by
  rw [run_eql_struct, Kit.run_equalIn_array w 9999 42 3 4 1 _ _ Try.underlying42 Try.sizeOf3]
  simp [Kit.eqElems, List.range', go_sem]

set_option maxHeartbeats 400000 in
set_option maxRecDepth 100000 in
theorem walk0 (c v : Int) (A A2 : Option Addr) (n cap n2 cap2 : Nat) (w : World) (hn : 40 < n ∨ 40 < n2) (hm : n ≤ 9223372036854775807) (hm2 : n2 ≤ 9223372036854775807) :
    Calls Try.prog 8 #[.agg #[.int .i64 c, .int .i64 v], .slice A n cap, .slice A2 n2 cap2] w fun e w' => e = .returned (.bool true) ∧ Below w.heap.size w w' := by
  by_cases h1 : 40 < n
  · go_enter Try.func8, Try.ntmps8
    go_wp2_with fail
    refine (Vw.awake_calls _).mono ?_
    rintro e w1 ⟨rfl, b1⟩
    go_wp2_with fail
    go_ret
    exact ⟨rfl, Kit.chain ((Below.refl _ _).alloc (Nat.le_refl _) _) b1⟩
  · have h2 : 40 < n2 := by omega
    have h1' : n ≤ 40 := by omega
    clear hn h1
    go_enter Try.func8, Try.ntmps8
    go_wp2_with fail
    refine (Vw.awake_calls _).mono ?_
    rintro e w1 ⟨rfl, b1⟩
    go_wp2_with fail
    go_ret
    exact ⟨rfl, Kit.chain ((Below.refl _ _).alloc (Nat.le_refl _) _) b1⟩

set_option maxHeartbeats 4000000 in
set_option maxRecDepth 100000 in
theorem walk1 (c v : Int) (A A2 : Option Addr) (n cap n2 cap2 : Nat) (l m : List Nd) (w : World) (hl : Nodes w A n l) (hm : Nodes w A2 n2 m) (hn : n ≤ 40) (hn2 : n2 ≤ 40) (hfit : ∀ x ∈ l, x.fits) :
    Calls Try.prog 8 #[.agg #[.int .i64 c, .int .i64 v], .slice A n cap, .slice A2 n2 cap2] w fun e w' => e = .returned (.bool true) ∧ Below w.heap.size w w' := by
  have b0 : Below w.heap.size w (w.alloc (.cells #[.int .i64 c, .int .i64 v] 35)) := (Below.refl w.heap.size w).alloc (Nat.le_refl _) _
  have k1 := Vw.vslot_calls c v A n cap l _ (hl.below b0) (by omega)
  have k2 := fun W (hW : Below w.heap.size w W) => Vw.rslot_calls c v A n cap l W (hl.below hW) (by omega)
  have k3 := fun W (hW : Below w.heap.size w W) => Vw.vactive_calls c v A n cap l W (hl.below hW) (by omega)
  have k4 := fun W (hW : Below w.heap.size w W) => Vw.ractive_calls c v A n cap l W (hl.below hW) (by omega)
  have k5 := fun W (hW : Below w.heap.size w W) => Vw.vall_calls c v A n cap l W (hl.below hW) (by omega)
  have k6 := fun W (hW : Below w.heap.size w W) => Vw.rall_calls c v A n cap l W (hl.below hW) (by omega)
  have k7 := fun W (hW : Below w.heap.size w W) => Vw.vmodes_calls A n cap l W (hl.below hW) (by omega) hfit
  have k8 := fun W (hW : Below w.heap.size w W) => Vw.rmodes_calls A n cap l W (hl.below hW) (by omega)
  have k9 := fun W (hW : Below w.heap.size w W) => Vw.vchanged_calls c v A A2 n cap n2 cap2 l m W (hl.below hW) (hm.below hW) (by omega) (by omega)
  have k10 := fun W (hW : Below w.heap.size w W) => Vw.rchanged_calls c v A A2 n cap n2 cap2 l m W (hl.below hW) (hm.below hW) (by omega) (by omega)
  simp only [Vw.slotV] at k1 k2
  simp only [Vw.modesV] at k7 k8
  have hpl : (Vw.active c v l).length ≤ n := by rw [← hl.len]; exact Vw.places_len c v Vw.act l l.length
  have hcl : (Vw.changed c v l m).length ≤ n := by rw [← hl.len]; exact Vw.places_len c v _ l l.length
  have B0 := Lib.hid b0
  clear hl hm b0 hfit
  generalize Vw.cnt l 0 l.length = q0 at *
  generalize Vw.cnt l 1 l.length = q1 at *
  generalize Vw.cnt l 2 l.length = q2 at *
  generalize Vw.cnt l 3 l.length = q3 at *
  generalize Vw.active c v l = on at *
  generalize Vw.changed c v l m = ch at *
  generalize Vw.all c v l = al at *
  generalize (Vw.slot c v l).getD 0 = sx at *
  generalize (Vw.slot c v l).isSome = sb at *
  have K3 := Lib.hid k3
  have K4 := Lib.hid k4
  have K5 := Lib.hid k5
  have K6 := Lib.hid k6
  have K7 := Lib.hid k7
  have K8 := Lib.hid k8
  have K9 := Lib.hid k9
  have K10 := Lib.hid k10
  clear k3 k4 k5 k6 k7 k8 k9 k10
  go_enter Try.func8, Try.ntmps8
  go_wp2_with fail
  refine k1.mono ?_
  rintro e w1 ⟨rfl, b1⟩
  obtain ⟨hcc, hff⟩ := Kit.bcell b1
  have B1 := Lib.hid (Kit.chain B0.out b1)
  have c2 := k2 w1 B1.out
  have p0 : w1.cell? ⟨w.heap.size, 0, none⟩ = some (.int .i64 c) := by rw [hcc _ _ (by simp)]; go_simp
  have p1 : w1.cell? ⟨w.heap.size, 1, none⟩ = some (.int .i64 v) := by rw [hcc _ _ (by simp)]; go_simp
  clear b1 k2 hcc hff
  go_wp2_with fail
  refine c2.mono ?_
  rintro e w2 ⟨rfl, b2⟩
  have r0 := Kit.cell_below b2 p0
  have r1 := Kit.cell_below b2 p1
  have B2 := Lib.hid (Kit.chain B1.out b2)
  have hq4 := eq4 q0 q1 q2 q3
  clear b2 p0 p1
  go_wp2_with fail
  go_region_held3 (fun w' => w'.cell? ⟨w.heap.size, 0, none⟩ = some (.int .i64 c) ∧ w'.cell? ⟨w.heap.size, 1, none⟩ = some (.int .i64 v)) (go_keep)
    (first | (go_at_call 32; refine (Vw.awake_calls _).mono ?_; rintro e w3 ⟨rfl, b3⟩; have s0 := Kit.cell_below b3 r0; have s1 := Kit.cell_below b3 r1; have B3 := Lib.hid (B2.out.drew.trans (b3.mono B2.out.drew.size)); have c3 := K3.out w3 B3.out; clear b3) | (go_at_call 34; refine c3.mono ?_; rintro e w4 ⟨v4, rfl, hown4, b4⟩; obtain ⟨A4, cap4, rfl, hi4⟩ := Vw.Ints.of_own hown4; have t0 := Kit.cell_below b4 s0; have t1 := Kit.cell_below b4 s1; have B4 := Lib.hid (Kit.chain B3.out b4); have c4 := K4.out w4 B4.out; clear b4 hown4) | (go_at_call 40; refine c4.mono ?_; rintro e w5 ⟨v5, rfl, hown5, b5⟩; obtain ⟨A5, cap5, rfl, hi5⟩ := Vw.Ints.of_own hown5; have u0 := Kit.cell_below b5 t0; have u1 := Kit.cell_below b5 t1; have B5 := Lib.hid (Kit.chain B4.out b5); have c5 := Vw.rints_calls A4 A5 on.length cap4 on.length cap5 on on w5 (hi4.below b5) hi5 (by omega) (by omega) rfl; clear b5 hown5 hi4 hi5) | (go_at_call 39; refine c5.mono ?_; clear c5; rintro e w6 ⟨rfl, b6⟩; have x0 := Kit.cell_below b6 u0; have x1 := Kit.cell_below b6 u1; have B6 := Lib.hid (Kit.chain B5.out b6); have c6 := K5.out w6 B6.out; clear b6) | (go_at_call 35; refine c6.mono ?_; rintro e w7 ⟨rfl, b7⟩; have y0 := Kit.cell_below b7 x0; have y1 := Kit.cell_below b7 x1; have B7 := Lib.hid (Kit.chain B6.out b7); have c7 := K6.out w7 B7.out; clear b7) | (go_at_call 41; refine c7.mono ?_; rintro e w8 ⟨rfl, b8⟩; have z0 := Kit.cell_below b8 y0; have z1 := Kit.cell_below b8 y1; have B8 := Lib.hid (Kit.chain B7.out b8); have c8 := K7.out w8 B8.out; clear b8) | (go_at_call 36; refine c8.mono ?_; rintro e w9 ⟨rfl, b9⟩; have a0 := Kit.cell_below b9 z0; have a1 := Kit.cell_below b9 z1; have B9 := Lib.hid (Kit.chain B8.out b9); have c9 := K8.out w9 B9.out; clear b9) | (go_at_call 42; refine c9.mono ?_; rintro e w10 ⟨rfl, b10⟩; have d0 := Kit.cell_below b10 a0; have d1 := Kit.cell_below b10 a1; have B10 := Lib.hid (Kit.chain B9.out b10); have c10 := K9.out w10 B10.out; clear b10) | (go_at_call 33; refine c10.mono ?_; rintro e w11 ⟨v11, rfl, hown11, b11⟩; obtain ⟨A11, cap11, rfl, hi11⟩ := Vw.Ints.of_own hown11; have e0 := Kit.cell_below b11 d0; have e1 := Kit.cell_below b11 d1; have B11 := Lib.hid (Kit.chain B10.out b11); have c11 := K10.out w11 B11.out; clear b11 hown11) | (go_at_call 43; refine c11.mono ?_; rintro e w12 ⟨v12, rfl, hown12, b12⟩; obtain ⟨A12, cap12, rfl, hi12⟩ := Vw.Ints.of_own hown12; have f0 := Kit.cell_below b12 e0; have f1 := Kit.cell_below b12 e1; have B12 := Lib.hid (Kit.chain B11.out b12); have c12 := Vw.rints_calls A11 A12 ch.length cap11 ch.length cap12 ch ch w12 (hi11.below b12) hi12 (by omega) (by omega) rfl; clear b12 hown12 hi11 hi12) | (go_at_call 39; refine c12.mono ?_; rintro e w13 ⟨rfl, b13⟩; have g0 := Kit.cell_below b13 f0; have g1 := Kit.cell_below b13 f1; have B13 := Lib.hid (Kit.chain B12.out b13); clear b13))
  go_wp2_with fail
  go_ret
  exact ⟨rfl, B13.out⟩

theorem walk (x v v2 : Value) {w : World} (w0 : Op.IsFault x) (w1 : Op.IsNodes w v) (w2 : Op.IsNodes w v2) (w' : World) (hw : w' = w := by rfl) :
    Calls Try.prog 8 #[x, v, v2] w fun e w' => e = .returned (.bool true) ∧ Below w.heap.size w w' := by
  obtain ⟨c, u, rfl, _⟩ := w0
  obtain ⟨A, n, cap, l, rfl, hm, hl, hf⟩ := w1
  obtain ⟨A2, n2, cap2, m, rfl, hm2, hl2, hf2⟩ := w2
  unfold maxLen at hm hm2
  by_cases h : n ≤ 40 ∧ n2 ≤ 40
  · exact walk1 c u A A2 n cap n2 cap2 l m w hl hl2 h.1 h.2 hf
  · exact walk0 c u A A2 n cap n2 cap2 w (by omega) hm hm2
end Go.Proofs.Ytpbkoooljelhjaa.ViewTells
