/-
  SyncCuts: the walk of the statement's own function.
-/
import Derived.Test.YtpbkoooljelhjaaSync5
import Derived.Test.YtpbkoooljelhjaaOp4
import Derived.BigRegion
import Derived.Outline
namespace Go.Proofs.Ytpbkoooljelhjaa.SyncCuts
set_option linter.unusedVariables false
set_option linter.unusedSimpArgs false
open Go.RowKit

set_option maxHeartbeats 8000000 in
set_option maxRecDepth 100000 in
theorem walk1 (n c v mo : Int) (A : Option Addr) (len cap : Nat) (l : List Lk) (w : World) (hl : Looks w A len l) (hlen : len ≤ 9223372036854775807) (hcap : len ≤ cap) (hmo : 0 ≤ mo ∧ mo ≤ 255) :
    Calls Try.prog 13 #[.agg #[.int .i64 n, .int .i64 c, .int .i64 v, .slice A len cap, .int .u8 mo]] w fun e w' => e = .returned (.bool true) ∧ Below w.heap.size w w' := by
  have HL := Lib.hid hl
  clear hl
  obtain ⟨hmo0, hmo1⟩ := hmo
  go_enter Try.func13, Try.ntmps13
  go_wp2_with fail
  go_region
  have hBZ : Below w.heap.size w ((w.alloc (.cells #[.int .i64 n, .int .i64 c, .int .i64 v, .slice A len cap, .int .u8 mo] 67)).alloc (.cells #[.int .i64 c, .int .i64 v] 35)).drew := (Kit.alloc2 ..).drew
  have c0 : ((w.alloc (.cells #[.int .i64 n, .int .i64 c, .int .i64 v, .slice A len cap, .int .u8 mo] 67)).alloc (.cells #[.int .i64 c, .int .i64 v] 35)).drew.cell? ⟨w.heap.size + 1, 0, none⟩ = some (.int .i64 c) := by go_simp
  have c1 : ((w.alloc (.cells #[.int .i64 n, .int .i64 c, .int .i64 v, .slice A len cap, .int .u8 mo] 67)).alloc (.cells #[.int .i64 c, .int .i64 v] 35)).drew.cell? ⟨w.heap.size + 1, 1, none⟩ = some (.int .i64 v) := by go_simp
  have BZ := Lib.hid hBZ
  clear hBZ
  go_wp2_with fail
  generalize ((w.alloc (.cells #[.int .i64 n, .int .i64 c, .int .i64 v, .slice A len cap, .int .u8 mo] 67)).alloc (.cells #[.int .i64 c, .int .i64 v] 35)).drew = W0 at *
  refine (Sy.may_calls n A len cap l _ (HL.out.below BZ.out) hlen).mono ?_
  rintro e w1 ⟨bb, rfl, hbb, rfl⟩
  cases bb with
  | false =>
    clear hbb
    go_wp2_with fail
    refine (Sy.awake_calls _).mono ?_
    rintro e w2 ⟨rfl, b2⟩
    go_wp2_with fail
    go_ret
    exact ⟨rfl, Kit.chain BZ.out b2⟩
  | true =>
    obtain ⟨m, rfl, hm⟩ := hbb rfl
    have hxn : ∀ x ∈ l, x.n ≤ 1000000 := fun x hx => by
      have h1 := (HL.out.there x hx).nodes.len
      have h2 := (hm.len x hx).1
      have := hm.hi
      omega
    have HM := Lib.hid hm
    have HXN := Lib.hid hxn
    have HLL := Lib.hid HL.out.len
    have h60 : len ≤ 60 := by have h1 := hm.most; have h2 := HLL.out; omega
    clear hbb hm hxn
    have k1 := Sy.there_calls m c v A len cap l W0 (HL.out.below BZ.out) HM.out HXN.out
    go_wp2_with fail
    refine k1.mono ?_
    clear k1
    rintro e w1 ⟨a, ha, rfl, b1⟩
    replace c0 := Kit.cell_below b1 c0
    replace c1 := Kit.cell_below b1 c1
    have B1 := Lib.hid (Kit.chain BZ.out b1)
    have HAt := Lib.hid ha
    clear ha b1
    by_cases hal : a = len
    · have HV : Sy.thereV l a = .tuple #[.int .i64 0, .bool false] := by unfold Sy.thereV; rw [HLL.out, if_pos hal, decide_eq_false (by omega)]
      rw [HV]
      clear HV
      go_wp2_with fail
      refine (Sy.awake_calls _).mono ?_
      rintro e w2 ⟨rfl, b2⟩
      go_wp2_with fail
      go_ret
      exact ⟨rfl, Kit.chain B1.out b2⟩
    · have hal2 : a < len := by have h := HAt.out.le; have h2 := HLL.out; omega
      have HV : Sy.thereV l a = .tuple #[.int .i64 (a : Int), .bool true] := by unfold Sy.thereV; rw [HLL.out, if_neg hal, decide_eq_true hal]
      rw [HV]
      clear HV
      obtain ⟨b, off, rfl, hb, hrow⟩ := HL.out.row (by omega)
      obtain ⟨kk, hkk, hk1, hk2⟩ : ∃ kk : Nat, (a : Int) + mo % ((len : Int) - (a : Int)) = (kk : Int) ∧ a ≤ kk ∧ kk < len := by
        have h1 := Int.emod_nonneg mo (show (len : Int) - (a : Int) ≠ 0 by omega)
        have h2 := Int.emod_lt_of_pos mo (show (0 : Int) < (len : Int) - (a : Int) by omega)
        exact ⟨a + (mo % ((len : Int) - (a : Int))).toNat, by omega, by omega, by omega⟩
      have hm0 := Int.emod_nonneg mo (show (len : Int) - (a : Int) ≠ 0 by omega)
      have hm1 := Int.emod_lt_of_pos mo (show (0 : Int) < (len : Int) - (a : Int) by omega)
      have k2 := fun W (hW : Below w.heap.size w W) => Sy.there_calls m c v (some ⟨b, off + kk * 6, none⟩) (len - kk) (cap - kk) (l.drop kk) W ((HL.out.drop (by omega)).below hW) (HM.out.drop kk) (fun x hx => HXN.out x (List.mem_of_mem_drop hx))
      have HD := Lib.hid (Sy.at_drop HAt.out hk1 (by rw [HLL.out]; omega))
      have HVD : Hid (Sy.thereV (l.drop kk) 0 = .tuple #[.int .i64 0, .bool true]) := Lib.hid (by
        have h1 : (l.drop kk).length = len - kk := by rw [List.length_drop, HLL.out]
        unfold Sy.thereV
        rw [h1, if_neg (by omega), decide_eq_true (by omega)]
        rfl)
      have K2 := Lib.hid k2
      clear k2 hrow hal
      have g1 : decide ((a : Int) < 0) = false := by simp
      have g2 : decide ((len : Int) ≤ (a : Int)) = false := by simp; omega
      have q0 : ¬ (len : Int) - (a : Int) = 0 := by omega
      have q1 : ((len : Int) - (a : Int) == 0) = false := beq_eq_false_iff_ne.2 q0
      have q2 : (0 : Int) < (len : Int) - (a : Int) := by omega
      have q3 : ¬ (len : Int) = (a : Int) := by omega
      have HKK := Lib.hid hkk
      clear hkk
      go_wp2_with fail
      have hkk := HKK.out
      first | rw [hkk] | skip
      clear hkk
      have g3 : (0 : Int) ≤ (kk : Int) := by omega
      have g4 : (kk : Int) ≤ (len : Int) := by omega
      have g5 : (len : Int) ≤ (cap : Int) := by omega
      have g6 : kk < cap := by omega
      have g7 : ¬ cap = kk := by omega
      clear hm0 hm1 q0 q1 q2 q3
      refine wp_region_held_drew (S := (fun w' => w'.cell? ⟨w.heap.size + 1, 0, none⟩ = some (.int .i64 c) ∧ w'.cell? ⟨w.heap.size + 1, 1, none⟩ = some (.int .i64 v))) (by kernel_rfl) ?_ (fun hHeld => ?_)
      · go_keep
      refine Rgn.take 0 (v := ?_) rfl (by kernel_rfl) (by kernel_rfl) (by kernel_rfl) (fun _ _ _ h => h) (by kernel_rfl) ?_ (by assumption) ?_
      rotate_left
      · intro w hSw
        (try dsimp only at hSw)
        go_simp
        try with_reducible rfl
      try simp only [Act.put, List.setIfInBounds_toArray, List.set_cons_zero, List.set_cons_succ]
      refine Rgn.take 1 (v := ?_) rfl (by kernel_rfl) (by kernel_rfl) (by kernel_rfl) (fun _ _ _ h => h) (by kernel_rfl) ?_ (by assumption) ?_
      rotate_left
      · intro w hSw
        (try dsimp only at hSw)
        go_simp
        try with_reducible rfl
      try simp only [Act.put, List.setIfInBounds_toArray, List.set_cons_zero, List.set_cons_succ]
      refine Rgn.take 2 (v := ?_) rfl (by kernel_rfl) (by kernel_rfl) (by kernel_rfl) (fun _ _ _ h => h) (by kernel_rfl) ?_ (by assumption) ?_
      rotate_left
      · intro w hSw
        (try dsimp only at hSw)
        go_simp
        try with_reducible rfl
      try simp only [Act.put, List.setIfInBounds_toArray, List.set_cons_zero, List.set_cons_succ]
      refine Rgn.take 3 (v := ?_) rfl (by kernel_rfl) (by kernel_rfl) (by kernel_rfl) (fun _ _ _ h => h) (by kernel_rfl) ?_ (by assumption) ?_
      rotate_left
      · intro w hSw
        (try dsimp only at hSw)
        go_simp
        try with_reducible rfl
      try simp only [Act.put, List.setIfInBounds_toArray, List.set_cons_zero, List.set_cons_succ]
      refine Rgn.take 4 (v := ?_) rfl (by kernel_rfl) (by kernel_rfl) (by kernel_rfl) (fun _ _ _ h => h) (by kernel_rfl) ?_ (by assumption) ?_
      rotate_left
      · intro w hSw
        (try dsimp only at hSw)
        go_simp
        try with_reducible rfl
      try simp only [Act.put, List.setIfInBounds_toArray, List.set_cons_zero, List.set_cons_succ]
      refine Rgn.one 5 rfl (by kernel_rfl) (fun K hK => ?_)
      go_simp
      refine (K2.out _ B1.out.drew).mono ?_
      rintro e y0 ⟨a2, ha2, rfl, bq⟩
      replace c0 := Kit.cell_below bq c0
      replace c1 := Kit.cell_below bq c1
      have D0 := Lib.hid (B1.out.drew.trans (bq.mono B1.out.drew.size))
      have e2 := ha2.unique HD.out
      subst e2
      rw [HVD.out]
      clear ha2
      clear bq
      go_simp
      refine hK.out _ _ ?_ (fun hHeld => ?_)
      · go_keep
      clear hK K
      try simp only [Act.put, List.setIfInBounds_toArray, List.set_cons_zero, List.set_cons_succ]
      refine Rgn.take 6 (v := ?_) rfl (by kernel_rfl) (by kernel_rfl) (by kernel_rfl) (fun _ _ _ h => h) (by kernel_rfl) ?_ (by assumption) ?_
      rotate_left
      · intro w hSw
        (try dsimp only at hSw)
        go_simp
        try with_reducible rfl
      try simp only [Act.put, List.setIfInBounds_toArray, List.set_cons_zero, List.set_cons_succ]
      refine Rgn.take 7 (v := ?_) rfl (by kernel_rfl) (by kernel_rfl) (by kernel_rfl) (fun _ _ _ h => h) (by kernel_rfl) ?_ (by assumption) ?_
      rotate_left
      · intro w hSw
        (try dsimp only at hSw)
        go_simp
        try with_reducible rfl
      try simp only [Act.put, List.setIfInBounds_toArray, List.set_cons_zero, List.set_cons_succ]
      refine Rgn.take 8 (v := ?_) rfl (by kernel_rfl) (by kernel_rfl) (by kernel_rfl) (fun _ _ _ h => h) (by kernel_rfl) ?_ (by assumption) ?_
      rotate_left
      · intro w hSw
        (try dsimp only at hSw)
        go_simp
        try with_reducible rfl
      try simp only [Act.put, List.setIfInBounds_toArray, List.set_cons_zero, List.set_cons_succ]
      refine Rgn.take 9 (v := ?_) rfl (by kernel_rfl) (by kernel_rfl) (by kernel_rfl) (fun _ _ _ h => h) (by kernel_rfl) ?_ (by assumption) ?_
      rotate_left
      · intro w hSw
        (try dsimp only at hSw)
        go_simp
        try with_reducible rfl
      try simp only [Act.put, List.setIfInBounds_toArray, List.set_cons_zero, List.set_cons_succ]
      refine Rgn.take 10 (v := ?_) rfl (by kernel_rfl) (by kernel_rfl) (by kernel_rfl) (fun _ _ _ h => h) (by kernel_rfl) ?_ (by assumption) ?_
      rotate_left
      · intro w hSw
        (try dsimp only at hSw)
        go_simp
        try with_reducible rfl
      try simp only [Act.put, List.setIfInBounds_toArray, List.set_cons_zero, List.set_cons_succ]
      refine wpAnyH_done (by kernel_rfl) ?_ _
      go_wp2_with fail
      refine (Sy.awake_calls _).mono ?_
      rintro e w2 ⟨rfl, b2⟩
      go_wp2_with fail
      go_ret
      exact ⟨rfl, Kit.chain D0.out b2⟩

theorem walk (v : Value) {w : World} (w0 : Op.IsCut w v) (w' : World) (hw : w' = w := by rfl) :
    Calls Try.prog 13 #[v] w fun e w' => e = .returned (.bool true) ∧ Below w.heap.size w w' := by
  obtain ⟨n, c, u, x, mo, rfl, _, _, _, hx, hmo⟩ := w0
  obtain ⟨A, len, cap, l, rfl, hm, hl, hc⟩ := hx
  unfold maxLen at hm
  exact walk1 n c u mo A len cap l w hl (by omega) hc hmo
end Go.Proofs.Ytpbkoooljelhjaa.SyncCuts
