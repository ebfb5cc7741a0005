/-
  Part 11 of a merged text.
-/
import Derived.Test.YtgiojagdmglinaaGreatDoorGb10
import Derived.Test.YtgiojagdmglinaaGreatDoorGb08
import Derived.Test.YtgiojagdmglinaaGreatDoorGb03
import Derived.Test.YtgiojagdmglinaaGreatDoorGb00
import Derived.BigRegion
import Derived.Test.YtgiojagdmglinaaGreatDoorGb04
set_option linter.unusedVariables false
set_option linter.unusedSimpArgs false
set_option maxRecDepth 100000
namespace Go.Proofs.YtgiojagdmglinaaGreatDoor
open Go.RowKit
namespace Vote
theorem infoInt : (Tryz.prog.info? 3).map (fun i => (i.zero, i.size, i.bytes)) = some (some (.int .i64 0), 1, 8) := by kernel_rfl
theorem made (n : Nat) : (madeCells #[Value.int .i64 0] n).toList = ints (List.replicate n 0) := by
 apply List.ext_getElem?
 intro j
 by_cases hj : j < n
 ·have h0 : (ints (List.replicate n 0))[j]? = some (.int .i64 0) := by unfold ints; simp [hj]
  rw [h0]
  simp [madeCells, hj, Nat.mod_one]
 ·rw [List.getElem?_eq_none (by simp [madeCells]; omega), List.getElem?_eq_none (by rw [ints_len]; simp; omega)]
set_option maxHeartbeats 4000000 in
theorem counts_calls (n : Nat) (h : Hb) (w : World) (h3 : 3 ≤ n) (h8 : n ≤ 8) (r : Wm.Right n h) :
  Calls Tryz.prog 138 #[.int .i64 n, h.val] w fun e w' => e = .returned (.slice (some ⟨w.heap.size + 1, 0, none⟩) n n) ∧ Kit.Row w' (w.heap.size + 1) (ints (row n h n)) ∧ Below w.heap.size w w' := by
 have hmk := fun W => run_make_row' (P := Tryz.prog) 22 3 (.int .i64 0) 8 Tryz.underlying22 infoInt rfl .i64 .i64 n (by omega) (by omega) W
 have kb := fun W => Cf.block_calls (n : Int) W (by omega) (by omega)
 have KB := Lib.hid kb
 have hage0 := r.age.1
 have hage1 := r.age.2
 have hR := Lib.hid r
 clear kb r
 unfold Hb.val
 go_enter Tryz.func138, Tryz.ntmps138
 go_wp2_with fail
 have q0 : Kit.Row ((w.alloc (.cells #[.int .i64 (h.ag 0), .int .i64 (h.ag 1), .int .i64 (h.ag 2), .int .i64 (h.ag 3), .int .i64 (h.ag 4), .int .i64 (h.ag 5), .int .i64 (h.ag 6), .int .i64 (h.ag 7), .int .i64 (h.port), .int .i64 (h.age), .int .i64 (h.hold), .int .i64 (h.pos)] 28)).alloc (.cells (madeCells #[.int .i64 0] n) 3)) w.heap.size (ints (Wm.nums h)) := (Kit.Row.new w _ _).alloc _
 have q1 : Kit.Row ((w.alloc (.cells #[.int .i64 (h.ag 0), .int .i64 (h.ag 1), .int .i64 (h.ag 2), .int .i64 (h.ag 3), .int .i64 (h.ag 4), .int .i64 (h.ag 5), .int .i64 (h.ag 6), .int .i64 (h.ag 7), .int .i64 (h.port), .int .i64 (h.age), .int .i64 (h.hold), .int .i64 (h.pos)] 28)).alloc (.cells (madeCells #[.int .i64 0] n) 3)) (w.heap.size + 1) (ints (row n h 0)) := (Kit.Row.newAt _ _ _ _ (by simp)).cast (by rw [made, row_zero])
 have RB0 := Lib.hid q0
 have HB0 := Lib.hid (Kit.alloc2 w #[.int .i64 (h.ag 0), .int .i64 (h.ag 1), .int .i64 (h.ag 2), .int .i64 (h.ag 3), .int .i64 (h.ag 4), .int .i64 (h.ag 5), .int .i64 (h.ag 6), .int .i64 (h.ag 7), .int .i64 (h.port), .int .i64 (h.age), .int .i64 (h.hold), .int .i64 (h.pos)] (madeCells #[.int .i64 0] n) 28 3)
 generalize (w.alloc (.cells #[.int .i64 (h.ag 0), .int .i64 (h.ag 1), .int .i64 (h.ag 2), .int .i64 (h.ag 3), .int .i64 (h.ag 4), .int .i64 (h.ag 5), .int .i64 (h.ag 6), .int .i64 (h.ag 7), .int .i64 (h.port), .int .i64 (h.age), .int .i64 (h.hold), .int .i64 (h.pos)] 28)).alloc (.cells (madeCells #[.int .i64 0] n) 3) = w2 at *
 clear q0 hmk
 go_loopw [6, 7, 8, 12] (fun _ _ _ vi wr => ∃ p : Nat, p ≤ n ∧ vi = .int .i64 p ∧ Kit.Row wr (w.heap.size + 1) (ints (row n h p)) ∧ Hid (Kit.Row wr w.heap.size (ints (Wm.nums h))) ∧ Hid (Below w.heap.size w wr)) (fun _ _ _ vi _ => n - (intOf vi).toNat)
 case atStart => exact ⟨0, by omega, rfl, q1, RB0, HB0⟩
 case round =>
  clear q1 RB0 HB0
  obtain ⟨p, hp, rfl, RL0, RB, HB⟩ := hrel
  by_cases hlt : p < n
  ·have hag := hR.out.ag p hlt
   obtain ⟨hag0, hag1⟩ := hag
   have cp := RB.out.at_ p _ (nums_at h p (by omega))
   have lb := RB.out.lt
   have lg := RL0.lt
   have RL := Lib.hid RL0
   clear RL0
   by_cases hA : h.ag p < n
   ·obtain ⟨s, hs⟩ : ∃ s : Nat, ((p : Int) + h.ag p) % n = s := ⟨_, (Int.toNat_of_nonneg (Int.emod_nonneg _ (by omega))).symm⟩
    have hsn : s < n := by have := Int.emod_lt_of_pos ((p : Int) + h.ag p) (show (0 : Int) < n by omega); omega
    have ka := fun W => Tal.at_calls (n : Int) p (h.ag p) W (by omega) (by omega) (by omega)
    rw [hs] at ka
    have HA := Lib.hid hA
    have KA := Lib.hid ka
    have HS := Lib.hid hs
    clear ka hs
    have cs := RL.out.at_ s _ (ints_at (row n h p) s (by rw [row_len]; exact hsn))
    have fs := RL.out.free s (by rw [ints_len, row_len]; exact hsn)
    have hbs : 0 ≤ (row n h p).getD s 0 ∧ (row n h p).getD s 0 ≤ 20 := by rw [row_at n h p s hsn]; have := to_le n h p s; omega
    obtain ⟨hbs0, hbs1⟩ := hbs
    have RL1 := Lib.hid ((RL.out.set s (.int .i64 ((row n h p).getD s 0 + 1)) (by rw [ints_len, row_len]; exact hsn)).cast (ints_set (row n h p) s ((row n h p).getD s 0 + 1)))
    have RB1 := Lib.hid (RB.out.far (w.heap.size + 1) s (.int .i64 ((row n h p).getD s 0 + 1)) (by omega))
    have HB1 := Lib.hid (HB.out.setCell (p := ⟨w.heap.size + 1, s, none⟩) (by simp) (.int .i64 ((row n h p).getD s 0 + 1)))
    generalize hz : (row n h p).getD s 0 = y at cs hbs0 hbs1
    go_wp2_with fail
    refine (KA.out _).mono ?_
    rintro e wm ⟨rfl, rfl⟩
    have gA : decide (h.ag p < (n : Int)) = true := decide_eq_true hA
    go_wp2_with fail
    rw [hz] at RL1 RB1 HB1
    have hL : ints ((row n h p).set s (y + 1)) = ints (bump (row n h p) s) := by unfold bump; rw [hz]
    have hl1 : (bump (row n h p) s).length = n := by rw [bump_len, row_len]
    generalize wr.setCell ⟨w.heap.size + 1, s, none⟩ (.int .i64 (y + 1)) = w9 at *
    replace RL1 := Lib.hid (RL1.out.cast hL)
    clear cs fs cp hL
    have cpt := RB1.out.at_ 8 (.int .i64 h.port) rfl
    have cag := RB1.out.at_ 9 (.int .i64 h.age) rfl
    have lb1 := RB1.out.lt
    have lg1 := RL1.out.lt
    by_cases hpt : (p : Int) = h.port
    ·have gpt : ((p : Int) != h.port) = false := by rw [hpt]; simp
     by_cases hage : h.age < 2 * (n : Int)
     ·have gag : decide (h.age ≥ 2 * (n : Int)) = false := decide_eq_false (by omega)
      obtain ⟨u, hu⟩ : ∃ u : Nat, ((p : Int) + h.age) % n = u := ⟨_, (Int.toNat_of_nonneg (Int.emod_nonneg _ (by omega))).symm⟩
      have hun : u < n := by have := Int.emod_lt_of_pos ((p : Int) + h.age) (show (0 : Int) < n by omega); omega
      have ka := fun W => Tal.at_calls (n : Int) p h.age W (by omega) (by omega) (by omega)
      rw [hu] at ka
      have KA2 := Lib.hid ka
      have HU := Lib.hid hu
      have HPT := Lib.hid hpt
      clear ka hu hpt
      refine wp_region_held_drew (S := (fun w' => w'.cell? ⟨w.heap.size, 8, none⟩ = some (.int .i64 h.port) ∧ w'.cell? ⟨w.heap.size, 9, none⟩ = some (.int .i64 h.age))) (by kernel_rfl) ?_ (fun hHeld => ?_)
      ·go_keep
      refine Rgn.tk 0 rfl ?_
      try simp only [Act.put, Rgn.a, Rgn.b, Rgn.c]
      refine Rgn.tk 1 rfl ?_
      try simp only [Act.put, Rgn.a, Rgn.b, Rgn.c]
      refine Rgn.tk 2 rfl ?_
      try simp only [Act.put, Rgn.a, Rgn.b, Rgn.c]
      refine Rgn.tk 3 rfl ?_
      try simp only [Act.put, Rgn.a, Rgn.b, Rgn.c]
      refine Rgn.tk 4 rfl ?_
      try simp only [Act.put, Rgn.a, Rgn.b, Rgn.c]
      refine Rgn.tk 5 rfl ?_
      try simp only [Act.put, Rgn.a, Rgn.b, Rgn.c]
      refine Rgn.tk 6 rfl ?_
      try simp only [Act.put, Rgn.a, Rgn.b, Rgn.c]
      refine Rgn.tk 7 rfl ?_
      try simp only [Act.put, Rgn.a, Rgn.b, Rgn.c]
      refine Rgn.one 8 rfl (by kernel_rfl) (fun K hK => ?_)
      go_simp
      refine (KB.out _).mono ?_
      rintro e wk ⟨rfl, bk⟩
      replace cpt := Kit.cell_below bk cpt
      replace cag := Kit.cell_below bk cag
      have RB2 := Lib.hid (RB1.out.drew.below bk)
      have RL2 := Lib.hid (RL1.out.drew.below bk)
      have HB2 := Lib.hid (HB1.out.drew.trans (bk.mono HB1.out.drew.size))
      clear bk
      go_simp
      refine hK.out _ _ ?_ (fun hHeld => ?_)
      ·go_keep
      clear hK K
      try simp only [Act.put, Rgn.a, Rgn.b, Rgn.c]
      refine Rgn.tk 9 rfl ?_
      try simp only [Act.put, Rgn.a, Rgn.b, Rgn.c]
      refine Rgn.tk 10 rfl ?_
      try simp only [Act.put, Rgn.a, Rgn.b, Rgn.c]
      refine wpAnyH_done (by kernel_rfl) ?_ _
      have lb2 := RB2.out.lt
      have lg2 := RL2.out.lt
      go_wp2_with fail
      refine (KA2.out _).mono ?_
      rintro e wm ⟨rfl, rfl⟩
      by_cases hus : u = s
      ·subst hus
       have gus : ((u : Int) != (u : Int)) = false := by simp
       go_wp2_with fail
       go_roundw
       case rel => exact ⟨p + 1, by omega, by go_num, RL2.out.cast (congrArg ints (row_same (by have := HA.out; omega) HS.out hsn HPT.out.symm hage HU.out)), Lib.hid RB2.out, HB2⟩
       case measure => simp [intOf]; omega
      ·have gus : ((u : Int) != (s : Int)) = true := by first | (simp; done) | (simp; omega)
       have cu := RL2.out.at_ u _ (ints_at (bump (row n h p) s) u (by rw [bump_len, row_len]; exact hun))
       have fu := RL2.out.free u (by rw [ints_len, bump_len, row_len]; exact hun)
       have hbu : 0 ≤ (bump (row n h p) s).getD u 0 ∧ (bump (row n h p) s).getD u 0 ≤ 20 := by rw [bump_at _ _ _ (by rw [row_len]; exact hsn), row_at n h p u hun]; have := to_le n h p u; split <;> omega
       obtain ⟨hbu0, hbu1⟩ := hbu
       have RU := Lib.hid (((RL2.out.set u (.int .i64 ((bump (row n h p) s).getD u 0 + 1)) (by rw [ints_len, bump_len, row_len]; exact hun)).cast (ints_set (bump (row n h p) s) u ((bump (row n h p) s).getD u 0 + 1))).cast (congrArg ints (row_two (by have := HA.out; omega) HS.out hsn HPT.out.symm hage HU.out hun hus)))
       generalize (bump (row n h p) s).getD u 0 = z at cu hbu0 hbu1 RU
       go_wp2_with fail
       go_roundw
       case rel => exact ⟨p + 1, by omega, by go_num, RU.out, Lib.hid (RB2.out.far _ _ _ (by omega)), Lib.hid (HB2.out.setCell (p := ⟨w.heap.size + 1, u, none⟩) (by simp) _)⟩
       case measure => simp [intOf]; omega
     ·have gag : decide (h.age ≥ 2 * (n : Int)) = true := decide_eq_true (by omega)
      have hno : ¬ (h.port = p ∧ h.age < 2 * (n : Int)) := fun e => hage e.2
      clear hpt
      refine wp_region_held_drew (S := (fun w' => w'.cell? ⟨w.heap.size, 8, none⟩ = some (.int .i64 h.port) ∧ w'.cell? ⟨w.heap.size, 9, none⟩ = some (.int .i64 h.age))) (by kernel_rfl) ?_ (fun hHeld => ?_)
      ·go_keep
      refine Rgn.tk 0 rfl ?_
      try simp only [Act.put, Rgn.a, Rgn.b, Rgn.c]
      refine Rgn.tk 1 rfl ?_
      try simp only [Act.put, Rgn.a, Rgn.b, Rgn.c]
      refine Rgn.tk 2 rfl ?_
      try simp only [Act.put, Rgn.a, Rgn.b, Rgn.c]
      refine Rgn.tk 3 rfl ?_
      try simp only [Act.put, Rgn.a, Rgn.b, Rgn.c]
      refine Rgn.tk 4 rfl ?_
      try simp only [Act.put, Rgn.a, Rgn.b, Rgn.c]
      refine Rgn.tk 5 rfl ?_
      try simp only [Act.put, Rgn.a, Rgn.b, Rgn.c]
      refine Rgn.tk 6 rfl ?_
      try simp only [Act.put, Rgn.a, Rgn.b, Rgn.c]
      refine Rgn.tk 7 rfl ?_
      try simp only [Act.put, Rgn.a, Rgn.b, Rgn.c]
      refine Rgn.one 8 rfl (by kernel_rfl) (fun K hK => ?_)
      go_simp
      refine (KB.out _).mono ?_
      rintro e wk ⟨rfl, bk⟩
      replace cpt := Kit.cell_below bk cpt
      replace cag := Kit.cell_below bk cag
      have RB2 := Lib.hid (RB1.out.drew.below bk)
      have RL2 := Lib.hid (RL1.out.drew.below bk)
      have HB2 := Lib.hid (HB1.out.drew.trans (bk.mono HB1.out.drew.size))
      clear bk
      go_simp
      refine hK.out _ _ ?_ (fun hHeld => ?_)
      ·go_keep
      clear hK K
      try simp only [Act.put, Rgn.a, Rgn.b, Rgn.c]
      refine Rgn.tk 9 rfl ?_
      try simp only [Act.put, Rgn.a, Rgn.b, Rgn.c]
      refine Rgn.tk 10 rfl ?_
      try simp only [Act.put, Rgn.a, Rgn.b, Rgn.c]
      refine wpAnyH_done (by kernel_rfl) ?_ _
      go_wp2_with fail
      go_roundw
      case rel => exact ⟨p + 1, by omega, by go_num, RL2.out.cast (congrArg ints (row_says (by have := HA.out; omega) HS.out hsn hno)), Lib.hid RB2.out, HB2⟩
      case measure => simp [intOf]; omega
    ·have gpt : ((p : Int) != h.port) = true := by simpa using hpt
     have hno : ¬ (h.port = p ∧ h.age < 2 * (n : Int)) := fun e => hpt e.1.symm
     clear hpt
     refine wp_region_held_drew (S := (fun w' => w'.cell? ⟨w.heap.size, 8, none⟩ = some (.int .i64 h.port) ∧ w'.cell? ⟨w.heap.size, 9, none⟩ = some (.int .i64 h.age))) (by kernel_rfl) ?_ (fun hHeld => ?_)
     ·go_keep
     refine Rgn.tk 0 rfl ?_
     try simp only [Act.put, Rgn.a, Rgn.b, Rgn.c]
     refine Rgn.tk 1 rfl ?_
     try simp only [Act.put, Rgn.a, Rgn.b, Rgn.c]
     refine Rgn.tk 2 rfl ?_
     try simp only [Act.put, Rgn.a, Rgn.b, Rgn.c]
     refine Rgn.tk 3 rfl ?_
     try simp only [Act.put, Rgn.a, Rgn.b, Rgn.c]
     refine Rgn.tk 4 rfl ?_
     try simp only [Act.put, Rgn.a, Rgn.b, Rgn.c]
     refine Rgn.sk 5 rfl ?_
     try simp only [Act.put, Rgn.a, Rgn.b, Rgn.c]
     refine Rgn.sk 6 rfl ?_
     try simp only [Act.put, Rgn.a, Rgn.b, Rgn.c]
     refine Rgn.sk 7 rfl ?_
     try simp only [Act.put, Rgn.a, Rgn.b, Rgn.c]
     refine Rgn.sk 8 rfl ?_
     try simp only [Act.put, Rgn.a, Rgn.b, Rgn.c]
     refine Rgn.sk 9 rfl ?_
     try simp only [Act.put, Rgn.a, Rgn.b, Rgn.c]
     refine Rgn.tk 10 rfl ?_
     try simp only [Act.put, Rgn.a, Rgn.b, Rgn.c]
     refine wpAnyH_done (by kernel_rfl) ?_ _
     go_wp2_with fail
     go_roundw
     case rel => exact ⟨p + 1, by omega, by go_num, RL1.out.drew.cast (congrArg ints (row_says (by have := HA.out; omega) HS.out hsn hno)), Lib.hid RB1.out.drew, Lib.hid HB1.out.drew⟩
     case measure => simp [intOf]; omega
   ·have RL1 := RL
    have RB1 := RB
    have HB1 := HB
    have HA := Lib.hid hA
    have gA : decide (h.ag p < (n : Int)) = false := decide_eq_false hA
    go_wp2_with fail
    clear cp
    have cpt := RB1.out.at_ 8 (.int .i64 h.port) rfl
    have cag := RB1.out.at_ 9 (.int .i64 h.age) rfl
    have lb1 := RB1.out.lt
    have lg1 := RL1.out.lt
    by_cases hpt : (p : Int) = h.port
    ·have gpt : ((p : Int) != h.port) = false := by rw [hpt]; simp
     by_cases hage : h.age < 2 * (n : Int)
     ·have gag : decide (h.age ≥ 2 * (n : Int)) = false := decide_eq_false (by omega)
      obtain ⟨u, hu⟩ : ∃ u : Nat, ((p : Int) + h.age) % n = u := ⟨_, (Int.toNat_of_nonneg (Int.emod_nonneg _ (by omega))).symm⟩
      have hun : u < n := by have := Int.emod_lt_of_pos ((p : Int) + h.age) (show (0 : Int) < n by omega); omega
      have ka := fun W => Tal.at_calls (n : Int) p h.age W (by omega) (by omega) (by omega)
      rw [hu] at ka
      have KA2 := Lib.hid ka
      have HU := Lib.hid hu
      have HPT := Lib.hid hpt
      clear ka hu hpt
      refine wp_region_held_drew (S := (fun w' => w'.cell? ⟨w.heap.size, 8, none⟩ = some (.int .i64 h.port) ∧ w'.cell? ⟨w.heap.size, 9, none⟩ = some (.int .i64 h.age))) (by kernel_rfl) ?_ (fun hHeld => ?_)
      ·go_keep
      refine Rgn.tk 0 rfl ?_
      try simp only [Act.put, Rgn.a, Rgn.b, Rgn.c]
      refine Rgn.tk 1 rfl ?_
      try simp only [Act.put, Rgn.a, Rgn.b, Rgn.c]
      refine Rgn.tk 2 rfl ?_
      try simp only [Act.put, Rgn.a, Rgn.b, Rgn.c]
      refine Rgn.tk 3 rfl ?_
      try simp only [Act.put, Rgn.a, Rgn.b, Rgn.c]
      refine Rgn.tk 4 rfl ?_
      try simp only [Act.put, Rgn.a, Rgn.b, Rgn.c]
      refine Rgn.tk 5 rfl ?_
      try simp only [Act.put, Rgn.a, Rgn.b, Rgn.c]
      refine Rgn.tk 6 rfl ?_
      try simp only [Act.put, Rgn.a, Rgn.b, Rgn.c]
      refine Rgn.tk 7 rfl ?_
      try simp only [Act.put, Rgn.a, Rgn.b, Rgn.c]
      refine Rgn.one 8 rfl (by kernel_rfl) (fun K hK => ?_)
      go_simp
      refine (KB.out _).mono ?_
      rintro e wk ⟨rfl, bk⟩
      replace cpt := Kit.cell_below bk cpt
      replace cag := Kit.cell_below bk cag
      have RB2 := Lib.hid (RB1.out.drew.below bk)
      have RL2 := Lib.hid (RL1.out.drew.below bk)
      have HB2 := Lib.hid (HB1.out.drew.trans (bk.mono HB1.out.drew.size))
      clear bk
      go_simp
      refine hK.out _ _ ?_ (fun hHeld => ?_)
      ·go_keep
      clear hK K
      try simp only [Act.put, Rgn.a, Rgn.b, Rgn.c]
      refine Rgn.tk 9 rfl ?_
      try simp only [Act.put, Rgn.a, Rgn.b, Rgn.c]
      refine Rgn.tk 10 rfl ?_
      try simp only [Act.put, Rgn.a, Rgn.b, Rgn.c]
      refine wpAnyH_done (by kernel_rfl) ?_ _
      have lb2 := RB2.out.lt
      have lg2 := RL2.out.lt
      go_wp2_with fail
      refine (KA2.out _).mono ?_
      rintro e wm ⟨rfl, rfl⟩
      have gus : ((u : Int) != -1) = true := by first | (simp; done) | (simp; omega)
      have cu := RL2.out.at_ u _ (ints_at (row n h p) u (by rw [row_len]; exact hun))
      have fu := RL2.out.free u (by rw [ints_len, row_len]; exact hun)
      have hbu : 0 ≤ (row n h p).getD u 0 ∧ (row n h p).getD u 0 ≤ 20 := by rw [row_at n h p u hun]; have := to_le n h p u; omega
      obtain ⟨hbu0, hbu1⟩ := hbu
      have RU := Lib.hid (((RL2.out.set u (.int .i64 ((row n h p).getD u 0 + 1)) (by rw [ints_len, row_len]; exact hun)).cast (ints_set (row n h p) u ((row n h p).getD u 0 + 1))).cast (congrArg ints (row_asks (by have := HA.out; omega) HPT.out.symm hage HU.out hun)))
      generalize (row n h p).getD u 0 = z at cu hbu0 hbu1 RU
      go_wp2_with fail
      go_roundw
      case rel => exact ⟨p + 1, by omega, by go_num, RU.out, Lib.hid (RB2.out.far _ _ _ (by omega)), Lib.hid (HB2.out.setCell (p := ⟨w.heap.size + 1, u, none⟩) (by simp) _)⟩
      case measure => simp [intOf]; omega
     ·have gag : decide (h.age ≥ 2 * (n : Int)) = true := decide_eq_true (by omega)
      have hno : ¬ (h.port = p ∧ h.age < 2 * (n : Int)) := fun e => hage e.2
      clear hpt
      refine wp_region_held_drew (S := (fun w' => w'.cell? ⟨w.heap.size, 8, none⟩ = some (.int .i64 h.port) ∧ w'.cell? ⟨w.heap.size, 9, none⟩ = some (.int .i64 h.age))) (by kernel_rfl) ?_ (fun hHeld => ?_)
      ·go_keep
      refine Rgn.tk 0 rfl ?_
      try simp only [Act.put, Rgn.a, Rgn.b, Rgn.c]
      refine Rgn.tk 1 rfl ?_
      try simp only [Act.put, Rgn.a, Rgn.b, Rgn.c]
      refine Rgn.tk 2 rfl ?_
      try simp only [Act.put, Rgn.a, Rgn.b, Rgn.c]
      refine Rgn.tk 3 rfl ?_
      try simp only [Act.put, Rgn.a, Rgn.b, Rgn.c]
      refine Rgn.tk 4 rfl ?_
      try simp only [Act.put, Rgn.a, Rgn.b, Rgn.c]
      refine Rgn.tk 5 rfl ?_
      try simp only [Act.put, Rgn.a, Rgn.b, Rgn.c]
      refine Rgn.tk 6 rfl ?_
      try simp only [Act.put, Rgn.a, Rgn.b, Rgn.c]
      refine Rgn.tk 7 rfl ?_
      try simp only [Act.put, Rgn.a, Rgn.b, Rgn.c]
      refine Rgn.one 8 rfl (by kernel_rfl) (fun K hK => ?_)
      go_simp
      refine (KB.out _).mono ?_
      rintro e wk ⟨rfl, bk⟩
      replace cpt := Kit.cell_below bk cpt
      replace cag := Kit.cell_below bk cag
      have RB2 := Lib.hid (RB1.out.drew.below bk)
      have RL2 := Lib.hid (RL1.out.drew.below bk)
      have HB2 := Lib.hid (HB1.out.drew.trans (bk.mono HB1.out.drew.size))
      clear bk
      go_simp
      refine hK.out _ _ ?_ (fun hHeld => ?_)
      ·go_keep
      clear hK K
      try simp only [Act.put, Rgn.a, Rgn.b, Rgn.c]
      refine Rgn.tk 9 rfl ?_
      try simp only [Act.put, Rgn.a, Rgn.b, Rgn.c]
      refine Rgn.tk 10 rfl ?_
      try simp only [Act.put, Rgn.a, Rgn.b, Rgn.c]
      refine wpAnyH_done (by kernel_rfl) ?_ _
      go_wp2_with fail
      go_roundw
      case rel => exact ⟨p + 1, by omega, by go_num, RL2.out.cast (congrArg ints (row_none (by have := HA.out; omega) hno)), Lib.hid RB2.out, HB2⟩
      case measure => simp [intOf]; omega
    ·have gpt : ((p : Int) != h.port) = true := by simpa using hpt
     have hno : ¬ (h.port = p ∧ h.age < 2 * (n : Int)) := fun e => hpt e.1.symm
     clear hpt
     refine wp_region_held_drew (S := (fun w' => w'.cell? ⟨w.heap.size, 8, none⟩ = some (.int .i64 h.port) ∧ w'.cell? ⟨w.heap.size, 9, none⟩ = some (.int .i64 h.age))) (by kernel_rfl) ?_ (fun hHeld => ?_)
     ·go_keep
     refine Rgn.tk 0 rfl ?_
     try simp only [Act.put, Rgn.a, Rgn.b, Rgn.c]
     refine Rgn.tk 1 rfl ?_
     try simp only [Act.put, Rgn.a, Rgn.b, Rgn.c]
     refine Rgn.tk 2 rfl ?_
     try simp only [Act.put, Rgn.a, Rgn.b, Rgn.c]
     refine Rgn.tk 3 rfl ?_
     try simp only [Act.put, Rgn.a, Rgn.b, Rgn.c]
     refine Rgn.tk 4 rfl ?_
     try simp only [Act.put, Rgn.a, Rgn.b, Rgn.c]
     refine Rgn.sk 5 rfl ?_
     try simp only [Act.put, Rgn.a, Rgn.b, Rgn.c]
     refine Rgn.sk 6 rfl ?_
     try simp only [Act.put, Rgn.a, Rgn.b, Rgn.c]
     refine Rgn.sk 7 rfl ?_
     try simp only [Act.put, Rgn.a, Rgn.b, Rgn.c]
     refine Rgn.sk 8 rfl ?_
     try simp only [Act.put, Rgn.a, Rgn.b, Rgn.c]
     refine Rgn.sk 9 rfl ?_
     try simp only [Act.put, Rgn.a, Rgn.b, Rgn.c]
     refine Rgn.tk 10 rfl ?_
     try simp only [Act.put, Rgn.a, Rgn.b, Rgn.c]
     refine wpAnyH_done (by kernel_rfl) ?_ _
     go_wp2_with fail
     go_roundw
     case rel => exact ⟨p + 1, by omega, by go_num, RL1.out.drew.cast (congrArg ints (row_none (by have := HA.out; omega) hno)), Lib.hid RB1.out.drew, Lib.hid HB1.out.drew⟩
     case measure => simp [intOf]; omega
  ·obtain rfl : p = n := by omega
   go_wp2_with fail
   go_ret
   exact ⟨rfl, RL0, HB.out⟩
end Vote
end Go.Proofs.YtgiojagdmglinaaGreatDoor
namespace Go.Proofs.YtgiojagdmglinaaGreatDoor
open Go.RowKit
namespace Vote
def num (T : List Nat) (j : Nat) : Nat := T.getD j 0
def Nums (w : World) (g : Nat) (T : List Nat) : Prop := ∀ j, j < T.length → w.cell? ⟨g, j, none⟩ = some (.int .i64 (num T j : Nat))
theorem getD_succ (T : List Nat) (k : Nat) (hk : k < T.length) : (T.take (k + 1)).foldl max 0 = max ((T.take k).foldl max 0) (num T k) := by
 unfold num
 rw [List.take_add_one, List.foldl_append, List.getD_eq_getElem?_getD, List.getElem?_eq_getElem hk]
 rfl
set_option maxHeartbeats 400000 in
theorem max_calls (g cap : Nat) (T : List Nat) (w : World) (R : Nums w g T) (h1 : 0 < T.length) (h2 : T.length ≤ 1000) :
  Calls Tryz.prog 139 #[.slice (some ⟨g, 0, none⟩) T.length cap] w fun e w' => e = .returned (.int .i64 (T.foldl max 0 : Nat)) ∧ w = w' := by
 have c0 := R 0 h1
 have hs := getD_succ T 0 h1
 have hz : (T.take 0).foldl max 0 = 0 := rfl
 rw [hz, Nat.zero_max] at hs
 have HS := Lib.hid hs
 have HR := Lib.hid R
 have hn : ¬ T.length < 1 := by omega
 clear R hs hz
 generalize hlen : T.length = n at *
 go_enter Tryz.func139, Tryz.ntmps139
 go_wp2_with fail
 go_loopw [3, 4] (fun vm vi wr => ∃ k : Nat, 1 ≤ k ∧ k ≤ n ∧ vi = .int .i64 k ∧ vm = .int .i64 ((T.take k).foldl max 0 : Nat) ∧ wr = w) (fun _ vi _ => n - (intOf vi).toNat)
 case atStart => exact ⟨1, by omega, by omega, rfl, by rw [HS.out], rfl⟩
 case round =>
  obtain ⟨k, hk1, hk, rfl, rfl, rfl⟩ := hrel
  by_cases hlt : k < n
  ·have ck := HR.out k (by omega)
   have hs := getD_succ T k (by omega)
   have HS1 := Lib.hid hs
   clear hs c0
   generalize (T.take k).foldl max 0 = m at *
   generalize num T k = x at *
   by_cases hm : m < x
   ·have hm2 : max m x = x := Nat.max_eq_right (by omega)
    go_wp2_with fail
    go_roundw
    case rel => exact ⟨k + 1, by omega, by omega, by go_num, by rw [HS1.out, hm2]; (try simp [hm]); (try omega), by first | rfl | trivial⟩
    case measure => simp [intOf]; omega
   ·have hm2 : max m x = m := Nat.max_eq_left (by omega)
    go_wp2_with fail
    go_roundw
    case rel => exact ⟨k + 1, by omega, by omega, by go_num, by rw [HS1.out, hm2]; (try simp [hm]); (try omega), by first | rfl | trivial⟩
    case measure => simp [intOf]; omega
  ·obtain rfl : k = n := by omega
   have ht : T.take k = T := List.take_of_length_le (by omega)
   rw [ht]
   go_wp2_with fail
   go_ret
   exact ⟨rfl, rfl⟩
set_option maxHeartbeats 400000 in
theorem index_calls (g cap m : Nat) (T : List Nat) (w : World) (R : Nums w g T) (h2 : T.length ≤ 1000) (hm : m ∈ T) :
  Calls Tryz.prog 140 #[.slice (some ⟨g, 0, none⟩) T.length cap, .int .i64 m] w fun e w' => e = .returned (.int .i64 (T.idxOf m : Nat)) ∧ w = w' := by
 have HR := Lib.hid R
 have HM := Lib.hid hm
 clear R hm
 generalize hlen : T.length = n at *
 go_enter Tryz.func140, Tryz.ntmps140
 go_wp2_with fail
 go_loopw [5, 8] (fun _ vi wr => ∃ k : Nat, k ≤ n ∧ vi = .int .i64 k ∧ Hid (∀ j, j < k → num T j ≠ m) ∧ wr = w) (fun _ vi _ => n - (intOf vi).toNat)
 case atStart => exact ⟨0, by omega, rfl, Lib.hid (fun j h => absurd h (by omega)), rfl⟩
 case round =>
  obtain ⟨k, hk, rfl, HA, rfl⟩ := hrel
  by_cases hlt : k < n
  ·have ck := HR.out k (by omega)
   by_cases he : num T k = m
   ·have hi : T.idxOf m = k := by
     have h1 : T[k]? = some m := by
      rw [← he]; unfold num; rw [List.getD_eq_getElem?_getD, List.getElem?_eq_getElem (by omega)]; rfl
     have hle := List.idxOf_lt_length_of_mem HM.out
     have hg := List.getElem_idxOf hle
     rcases Nat.lt_trichotomy (T.idxOf m) k with h | h | h
     ·exfalso
      refine HA.out _ h ?_
      unfold num
      rw [List.getD_eq_getElem?_getD, List.getElem?_eq_getElem hle, hg]; rfl
     ·exact h
     ·exfalso
      have hn := List.not_of_lt_findIdx (p := (· == m)) (xs := T) (i := k) h
      obtain ⟨hk2, hk3⟩ := List.getElem?_eq_some_iff.1 h1
      rw [hk3] at hn
      simp at hn
    rw [he] at ck
    have HI := Lib.hid hi
    clear he hi
    go_wp2_with fail
    go_ret
    exact ⟨by rw [HI.out]; rfl, rfl⟩
   ·have HA2 : Hid (∀ j, j < k + 1 → num T j ≠ m) := Lib.hid (fun j hj => by
     by_cases e : j = k
     ·subst e; exact he
     ·exact HA.out j (by omega))
    have gx : ((m : Int) == (num T k : Nat)) = false := by rw [beq_eq_false_iff_ne]; intro e; exact he (by omega)
    clear he
    generalize num T k = x at *
    go_wp2_with fail
    go_roundw
    case rel => exact ⟨k + 1, by omega, by go_num, HA2, by first | rfl | trivial⟩
    case measure => simp [intOf]; omega
  ·exfalso
   obtain ⟨j, hj⟩ := List.mem_iff_getElem?.1 HM.out
   obtain ⟨hj1, hj2⟩ := List.getElem?_eq_some_iff.1 hj
   refine HA.out j (by omega) ?_
   unfold num
   rw [List.getD_eq_getElem?_getD, hj]; rfl
theorem tally_row (n : Nat) (h : Hb) : ints (row n h n) = (Wm.tally n h).map fun (x : Nat) => Value.int .i64 (x : Int) := by
 unfold ints row Wm.tally
 rw [List.map_map, List.map_map]
 rfl
theorem nums_row {w : World} {g n : Nat} {h : Hb} (R : Kit.Row w g (ints (row n h n))) : Nums w g (Wm.tally n h) := fun j hj => by
 refine R.at_ j _ ?_
 unfold num
 rw [tally_row, List.getElem?_map, List.getD_eq_getElem?_getD, List.getElem?_eq_getElem hj]
 rfl
theorem tally_len (n : Nat) (h : Hb) : (Wm.tally n h).length = n := by simp [Wm.tally]
theorem best_mem (n : Nat) (h : Hb) (h0 : 0 < n) : (Wm.best n h).2 ∈ Wm.tally n h := by
 obtain ⟨a, b, _⟩ := Wm.best_spec n h h0
 rw [b]
 exact List.mem_map.2 ⟨_, List.mem_range.2 a, rfl⟩
set_option maxHeartbeats 1000000 in
theorem best_calls (n : Nat) (h : Hb) (w : World) (h3 : 3 ≤ n) (h8 : n ≤ 8) (r : Wm.Right n h) :
  Calls Tryz.prog 128 #[.int .i64 n, h.val] w fun e w' => e = .returned (.tuple #[.int .i64 ((Wm.best n h).1 : Nat), .int .i64 ((Wm.best n h).2 : Nat)]) ∧ Below w.heap.size w w' := by
 have kr := fun W => right_calls n h W h3 h8 r
 have kc := fun W => counts_calls n h W h3 h8 r
 have km := fun g cap W R => max_calls g cap (Wm.tally n h) W R (by rw [tally_len]; omega) (by rw [tally_len]; omega)
 have ki := fun g cap W R => index_calls g cap (Wm.best n h).2 (Wm.tally n h) W R (by rw [tally_len]; omega) (best_mem n h (by omega))
 rw [tally_len] at km ki
 have e2 : (Wm.tally n h).foldl max 0 = (Wm.best n h).2 := rfl
 have e1 : (Wm.tally n h).idxOf (Wm.best n h).2 = (Wm.best n h).1 := rfl
 rw [e2] at km
 rw [e1] at ki
 unfold Hb.val at kr kc ⊢
 generalize (Wm.best n h).1 = b1 at *
 generalize (Wm.best n h).2 = b2 at *
 have KR := Lib.hid kr
 have KC := Lib.hid kc
 have KM := Lib.hid km
 have KI := Lib.hid ki
 clear kr kc km ki e1 e2 r h3 h8
 go_enter Tryz.func128, Tryz.ntmps128
 go_wp2_with fail
 refine (KR.out _).mono ?_
 rintro e w1 ⟨rfl, b⟩
 have r0 : Kit.Row w1 w.heap.size (ints (Wm.nums h)) := (Kit.Row.new w #[.int .i64 (h.ag 0), .int .i64 (h.ag 1), .int .i64 (h.ag 2), .int .i64 (h.ag 3), .int .i64 (h.ag 4), .int .i64 (h.ag 5), .int .i64 (h.ag 6), .int .i64 (h.ag 7), .int .i64 (h.port), .int .i64 (h.age), .int .i64 (h.hold), .int .i64 (h.pos)] 28).below b
 have HB := Lib.hid (Kit.chain (Kit.alloc1 w #[.int .i64 (h.ag 0), .int .i64 (h.ag 1), .int .i64 (h.ag 2), .int .i64 (h.ag 3), .int .i64 (h.ag 4), .int .i64 (h.ag 5), .int .i64 (h.ag 6), .int .i64 (h.ag 7), .int .i64 (h.port), .int .i64 (h.age), .int .i64 (h.hold), .int .i64 (h.pos)] 28) b)
 clear b
 have c0 := r0.at_ 0 (.int .i64 (h.ag 0)) rfl
 have c1 := r0.at_ 1 (.int .i64 (h.ag 1)) rfl
 have c2 := r0.at_ 2 (.int .i64 (h.ag 2)) rfl
 have c3 := r0.at_ 3 (.int .i64 (h.ag 3)) rfl
 have c4 := r0.at_ 4 (.int .i64 (h.ag 4)) rfl
 have c5 := r0.at_ 5 (.int .i64 (h.ag 5)) rfl
 have c6 := r0.at_ 6 (.int .i64 (h.ag 6)) rfl
 have c7 := r0.at_ 7 (.int .i64 (h.ag 7)) rfl
 have c8 := r0.at_ 8 (.int .i64 (h.port)) rfl
 have c9 := r0.at_ 9 (.int .i64 (h.age)) rfl
 have c10 := r0.at_ 10 (.int .i64 (h.hold)) rfl
 have c11 := r0.at_ 11 (.int .i64 (h.pos)) rfl
 have R0 := Lib.hid r0
 clear r0
 go_wp2_with fail
 refine (KC.out _).mono ?_
 rintro e w2 ⟨rfl, R, b⟩
 have HN := Lib.hid (nums_row R)
 have HB2 := Lib.hid (HB.out.trans (b.mono HB.out.size))
 clear R b c0 c1 c2 c3 c4 c5 c6 c7 c8 c9 c10 c11
 go_wp2_with fail
 refine (KM.out _ _ _ HN.out).mono ?_
 rintro e w3 ⟨rfl, rfl⟩
 go_wp2_with fail
 refine (KI.out _ _ _ HN.out).mono ?_
 rintro e w3 ⟨rfl, rfl⟩
 go_wp2_with fail
 go_ret2
 exact ⟨rfl, HB2.out⟩
set_option maxHeartbeats 1000000 in
theorem votes_calls (n v : Nat) (h : Hb) (w : World) (h3 : 3 ≤ n) (h8 : n ≤ 8) (hv : v < n) (r : Wm.Right n h) :
  Calls Tryz.prog 127 #[.int .i64 n, h.val, .int .i64 v] w fun e w' => e = .returned (.int .i64 (Wm.votes n h v : Nat)) ∧ Below w.heap.size w w' := by
 have kr := fun W => right_calls n h W h3 h8 r
 have kc := fun W => counts_calls n h W h3 h8 r
 unfold Hb.val at kr kc ⊢
 have KR := Lib.hid kr
 have KC := Lib.hid kc
 have h1 : decide ((v : Int) < 0) = false := decide_eq_false (by omega)
 have h2 : decide ((v : Int) ≥ n) = false := decide_eq_false (by omega)
 clear kr kc r
 go_enter Tryz.func127, Tryz.ntmps127
 go_wp2_with fail
 refine (KR.out _).mono ?_
 rintro e w1 ⟨rfl, b⟩
 have r0 : Kit.Row w1 w.heap.size (ints (Wm.nums h)) := (Kit.Row.new w #[.int .i64 (h.ag 0), .int .i64 (h.ag 1), .int .i64 (h.ag 2), .int .i64 (h.ag 3), .int .i64 (h.ag 4), .int .i64 (h.ag 5), .int .i64 (h.ag 6), .int .i64 (h.ag 7), .int .i64 (h.port), .int .i64 (h.age), .int .i64 (h.hold), .int .i64 (h.pos)] 28).below b
 have HB := Lib.hid (Kit.chain (Kit.alloc1 w #[.int .i64 (h.ag 0), .int .i64 (h.ag 1), .int .i64 (h.ag 2), .int .i64 (h.ag 3), .int .i64 (h.ag 4), .int .i64 (h.ag 5), .int .i64 (h.ag 6), .int .i64 (h.ag 7), .int .i64 (h.port), .int .i64 (h.age), .int .i64 (h.hold), .int .i64 (h.pos)] 28) b)
 clear b
 have c0 := r0.at_ 0 (.int .i64 (h.ag 0)) rfl
 have c1 := r0.at_ 1 (.int .i64 (h.ag 1)) rfl
 have c2 := r0.at_ 2 (.int .i64 (h.ag 2)) rfl
 have c3 := r0.at_ 3 (.int .i64 (h.ag 3)) rfl
 have c4 := r0.at_ 4 (.int .i64 (h.ag 4)) rfl
 have c5 := r0.at_ 5 (.int .i64 (h.ag 5)) rfl
 have c6 := r0.at_ 6 (.int .i64 (h.ag 6)) rfl
 have c7 := r0.at_ 7 (.int .i64 (h.ag 7)) rfl
 have c8 := r0.at_ 8 (.int .i64 (h.port)) rfl
 have c9 := r0.at_ 9 (.int .i64 (h.age)) rfl
 have c10 := r0.at_ 10 (.int .i64 (h.hold)) rfl
 have c11 := r0.at_ 11 (.int .i64 (h.pos)) rfl
 have R0 := Lib.hid r0
 clear r0
 go_wp2_with fail
 refine (KC.out _).mono ?_
 rintro e w2 ⟨rfl, R, b⟩
 have cv := R.at_ v _ (ints_at (row n h n) v (by rw [row_len]; exact hv))
 rw [row_at n h n v hv] at cv
 have HB2 := Lib.hid (HB.out.trans (b.mono HB.out.size))
 clear R b c0 c1 c2 c3 c4 c5 c6 c7 c8 c9 c10 c11
 go_wp2_with fail
 go_ret
 exact ⟨rfl, HB2.out⟩
end Vote
end Go.Proofs.YtgiojagdmglinaaGreatDoor
namespace Go.Proofs.YtgiojagdmglinaaGreatDoor
open Go.RowKit
theorem Frames.at_ {w : World} {A : Option Addr} {n : Nat} {l : List Fr} (h : Frames w A n l) {q : Nat} (hq : q < n) : ∃ b off, A = some ⟨b, off, none⟩ ∧ b < w.heap.size ∧ w.cell? ⟨b, off + q * 2, none⟩ = some (.int .i64 (frAt l q).k) ∧ w.cell? ⟨b, off + q * 2 + 1, none⟩ = some (.int .i64 (frAt l q).i) := by
 obtain ⟨b, off, rfl, hb, hrow⟩ := h.row (by omega)
 obtain ⟨h1, h2⟩ := hrow q (frAt l q) (Port.frAt_eq (by rw [h.len]; exact hq))
 exact ⟨b, off, rfl, hb, h1, h2⟩
namespace Gate
set_option maxHeartbeats 1000000 in
theorem fits_calls (n cap : Nat) (A : Option Addr) (l : List Fr) (w : World) (h3 : 3 ≤ n) (h8 : n ≤ 8) (hl : Frames w A n l) (hf : Wm.Fit n l) :
  Calls Tryz.prog 96 #[.int .i64 n, .slice A n cap] w fun e w' => e = .returned (.bool true) ∧ Below w.heap.size w w' := by
 have kr := fun W => Cf.right_calls (n : Int) W (by omega) (by omega)
 have KR := Lib.hid kr
 have HL := Lib.hid hl
 have HF := Lib.hid hf
 clear kr hl hf
 have gn : ((n : Int) != (n : Int)) = false := by simp
 go_enter Tryz.func96, Tryz.ntmps96
 go_wp2_with fail
 refine (KR.out _).mono ?_
 rintro e w1 ⟨rfl, rfl⟩
 go_wp2_with fail
 go_loopw [5, 6, 18, 24] (fun _ _ vi _ wr => ∃ k : Nat, k ≤ n ∧ vi = .int .i64 k ∧ Hid (Below w.heap.size w wr)) (fun _ _ vi _ _ => n - (intOf vi).toNat)
 case atStart => exact ⟨0, by omega, rfl, Lib.hid (Below.refl _ _)⟩
 case round =>
  obtain ⟨k, hk, rfl, HB⟩ := hrel
  by_cases hlt : k < n
  ·obtain ⟨b, off, rfl, hb, m0, m1⟩ := HL.out.at_ hlt
   replace m0 := (HB.out.cell (p := ⟨b, off + k * 2, none⟩) hb).trans m0
   replace m1 := (HB.out.cell (p := ⟨b, off + k * 2 + 1, none⟩) hb).trans m1
   have hc := HF.out.any k hlt
   have HB2 := fun e => Lib.hid (HB.out.alloc HB.out.size e)
   rcases hc with e | e | e
   all_goals
    rw [e] at m0 m1
    simp only [Fr.none] at m0 m1
    clear e
    have hk2 : ((k : Int) == (k : Int)) = true := by simp
    go_wp2_with fail
    go_roundw
    case rel => exact ⟨k + 1, by omega, by go_num, HB2 _⟩
    case measure => simp [intOf]; omega
  ·obtain rfl : k = n := by omega
   go_wp2_with fail
   go_ret
   exact ⟨rfl, HB.out⟩
end Gate
end Go.Proofs.YtgiojagdmglinaaGreatDoor
