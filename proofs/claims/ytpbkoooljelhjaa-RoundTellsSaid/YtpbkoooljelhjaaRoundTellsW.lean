/-
  RoundTells: the walk of the statement's own function.
-/
import Derived.Test.YtpbkoooljelhjaaRound9
import Derived.Test.YtpbkoooljelhjaaOp4
import Derived.BigRegion
namespace Go.Proofs.Ytpbkoooljelhjaa.RoundTells
set_option linter.unusedVariables false
set_option linter.unusedSimpArgs false
open Go.RowKit

set_option maxHeartbeats 4000000 in
set_option maxRecDepth 100000 in
theorem walk1 (n f c v : Int) (A A2 : Option Addr) (len cap n2 cap2 : Nat) (l : List Lk) (ah : List Nd) (w : World) (hl : Looks w A len l) (hah : Nodes w A2 n2 ah) (hlen : len ≤ 9223372036854775807) (hn2 : n2 ≤ 9223372036854775807) (hcap : len ≤ cap) (hnil : A = none → cap = 0) (hf1 : -9223372036854775808 ≤ f) (hf2 : f ≤ 9223372036854775807) :
    Calls Try.prog 21 #[.agg #[.int .i64 n, .int .i64 f, .int .i64 c, .int .i64 v, .slice A2 n2 cap2, .slice A len cap]] w fun e w' => e = .returned (.bool true) ∧ Below w.heap.size w w' := by
  have HL := Lib.hid hl
  have HAH := Lib.hid hah
  have HNIL := Lib.hid hnil
  clear hl hah hnil
  have z0 : (w.alloc (.cells #[.int .i64 n, .int .i64 f, .int .i64 c, .int .i64 v, .slice A2 n2 cap2, .slice A len cap] 98)).cell? ⟨w.heap.size, 0, none⟩ = some (.int .i64 n) := World.cell?_alloc_new ..
  have z1 : (w.alloc (.cells #[.int .i64 n, .int .i64 f, .int .i64 c, .int .i64 v, .slice A2 n2 cap2, .slice A len cap] 98)).cell? ⟨w.heap.size, 1, none⟩ = some (.int .i64 f) := World.cell?_alloc_new ..
  have z2 : (w.alloc (.cells #[.int .i64 n, .int .i64 f, .int .i64 c, .int .i64 v, .slice A2 n2 cap2, .slice A len cap] 98)).cell? ⟨w.heap.size, 2, none⟩ = some (.int .i64 c) := World.cell?_alloc_new ..
  have z3 : (w.alloc (.cells #[.int .i64 n, .int .i64 f, .int .i64 c, .int .i64 v, .slice A2 n2 cap2, .slice A len cap] 98)).cell? ⟨w.heap.size, 3, none⟩ = some (.int .i64 v) := World.cell?_alloc_new ..
  have z4 : (w.alloc (.cells #[.int .i64 n, .int .i64 f, .int .i64 c, .int .i64 v, .slice A2 n2 cap2, .slice A len cap] 98)).cell? ⟨w.heap.size, 4, none⟩ = some (.slice A2 n2 cap2) := World.cell?_alloc_new ..
  have z5 : (w.alloc (.cells #[.int .i64 n, .int .i64 f, .int .i64 c, .int .i64 v, .slice A2 n2 cap2, .slice A len cap] 98)).cell? ⟨w.heap.size, 5, none⟩ = some (.slice A len cap) := World.cell?_alloc_new ..
  by_cases h20 : n2 ≤ 20
  · have g20 : decide ((20 : Int) < (n2 : Int)) = false := by simp; omega
    go_enter Try.func21, Try.ntmps21
    go_wp2_with fail
    refine (Rd.may_calls A len cap l _ (HL.out.below (Kit.alloc1 ..)) hlen).mono ?_
    rintro e w1 ⟨bb, rfl, hbb, rfl⟩
    cases bb with
    | false =>
      clear hbb
      go_wp2_with fail
      refine (Rd.awake_calls _).mono ?_
      rintro e wA ⟨rfl, bA⟩
      go_wp2_with fail
      go_ret
      exact ⟨rfl, Kit.chain (Kit.alloc1 ..) bA⟩
    | true =>
      obtain ⟨h60, hxn⟩ := hbb rfl
      have HLL := Lib.hid HL.out.len
      have hl60 : len ≤ 60 := by have h2 := HLL.out; omega
      have HXN := Lib.hid hxn
      clear hbb h60 hxn
      have k1 := fun W (hW : Below w.heap.size w W) => Rd.wrong_calls c v f A len cap l W (HL.out.below hW) (by omega) (fun x hx => Nat.le_trans (HXN.out x hx) (by omega)) hf1 hf2
      have k2 := fun W (hW : Below w.heap.size w W) => Rd.rwrong_calls c v f A len cap l W (HL.out.below hW) (by omega) (fun x hx => Nat.le_trans (HXN.out x hx) (by omega)) hf1 hf2
      have k3 := fun W (hW : Below w.heap.size w W) => Rd.heard_calls n c v f A len cap l W (HL.out.below hW) (by omega) hcap HNIL.out hf1 hf2
      have k4 := fun W (hW : Below w.heap.size w W) => Rd.rheard_calls n c v f A len cap l W (HL.out.below hW) (by omega) hcap hf1 hf2
      have k5 := fun (t ak ai bk bi : Int) (N : Value) W (hW : Below w.heap.size w W) => Rd.order_calls c v t ak ai bk bi A2 n2 cap2 ah N W (HAH.out.below hW) (by omega)
      have k6 := fun (t ak ai bk bi : Int) (N : Value) W (hW : Below w.heap.size w W) => Rd.rorder_calls c v t ak ai bk bi A2 n2 cap2 ah N W (HAH.out.below hW) (by omega)
      simp only [Sy.firstV] at k1 k2
      generalize (((Rd.wrong c v f l).getD 0 : Nat) : Int) = s1 at *
      generalize (Rd.wrong c v f l).isSome = s2 at *
      have K1 := Lib.hid k1
      have K2 := Lib.hid k2
      have K3 := Lib.hid k3
      have K4 := Lib.hid k4
      have K5 := Lib.hid k5
      have K6 := Lib.hid k6
      clear k1 k2 k3 k4 k5 k6 h20
      go_wp2_with fail
      refine (K1.out _ (Kit.alloc1 ..)).mono ?_
      rintro e u1 ⟨rfl, b1⟩
      replace z0 := Kit.cell_below b1 z0
      replace z1 := Kit.cell_below b1 z1
      replace z2 := Kit.cell_below b1 z2
      replace z3 := Kit.cell_below b1 z3
      replace z4 := Kit.cell_below b1 z4
      replace z5 := Kit.cell_below b1 z5
      have B1 := Lib.hid (Kit.chain (Kit.alloc1 ..) b1)
      clear b1
      go_wp2_with fail
      refine (K2.out _ B1.out).mono ?_
      rintro e u2 ⟨rfl, b2⟩
      replace z0 := Kit.cell_below b2 z0
      replace z1 := Kit.cell_below b2 z1
      replace z2 := Kit.cell_below b2 z2
      replace z3 := Kit.cell_below b2 z3
      replace z4 := Kit.cell_below b2 z4
      replace z5 := Kit.cell_below b2 z5
      have B2 := Lib.hid (Kit.chain B1.out b2)
      clear b2
      go_wp2_with fail
      refine (K3.out _ B2.out).mono ?_
      rintro e u3 ⟨o1, ho1, rfl, b3⟩
      replace z0 := Kit.cell_below b3 z0
      replace z1 := Kit.cell_below b3 z1
      replace z2 := Kit.cell_below b3 z2
      replace z3 := Kit.cell_below b3 z3
      replace z4 := Kit.cell_below b3 z4
      replace z5 := Kit.cell_below b3 z5
      have B3 := Lib.hid (Kit.chain B2.out b3)
      have HO1 := Lib.hid ho1
      clear ho1
      simp only [Sy.firstV]
      generalize hx1 : ((o1.getD 0 : Nat) : Int) = x1
      generalize hx2 : o1.isSome = x2
      have HX := Lib.hid (And.intro hx1 hx2)
      clear hx1 hx2
      clear b3
      go_wp2_with fail
      refine (K4.out _ B3.out).mono ?_
      rintro e u4 ⟨o2, ho2, rfl, b4⟩
      replace z0 := Kit.cell_below b4 z0
      replace z1 := Kit.cell_below b4 z1
      replace z2 := Kit.cell_below b4 z2
      replace z3 := Kit.cell_below b4 z3
      replace z4 := Kit.cell_below b4 z4
      replace z5 := Kit.cell_below b4 z5
      have B4 := Lib.hid (Kit.chain B3.out b4)
      have e12 := ho2.unique HO1.out
      subst e12
      simp only [Sy.firstV]
      rw [HX.out.1, HX.out.2]
      clear ho2
      clear b4
      go_wp2_with fail
      go_loopw [11] (fun vi wr => ∃ k : Nat, k ≤ len ∧ vi = .int .i64 k ∧ (wr.cell? ⟨w.heap.size, 0, none⟩ = some (.int .i64 n) ∧ wr.cell? ⟨w.heap.size, 1, none⟩ = some (.int .i64 f) ∧ wr.cell? ⟨w.heap.size, 2, none⟩ = some (.int .i64 c) ∧ wr.cell? ⟨w.heap.size, 3, none⟩ = some (.int .i64 v) ∧ wr.cell? ⟨w.heap.size, 4, none⟩ = some (.slice A2 n2 cap2) ∧ wr.cell? ⟨w.heap.size, 5, none⟩ = some (.slice A len cap)) ∧ Hid (Below w.heap.size w wr)) (fun vi _ => len - (intOf vi).toNat)
      case atStart => exact ⟨0, by omega, rfl, ⟨z0, z1, z2, z3, z4, z5⟩, B4⟩
      case round =>
        clear z0 z1 z2 z3 z4 z5
        obtain ⟨k, hk, rfl, ⟨z0, z1, z2, z3, z4, z5⟩, HB⟩ := hrel
        by_cases hlt : k < len
        · obtain ⟨b, off, rfl, hb, hrow⟩ := HL.out.row (by omega)
          have hkl : k < l.length := by rw [HLL.out]; exact hlt
          obtain ⟨x, hx⟩ : ∃ x, l[k]? = some x := ⟨_, List.getElem?_eq_getElem hkl⟩
          obtain ⟨m0, m1, m2, m3, m4, m5⟩ := hrow k x hx
          replace m0 := (HB.out.cell (p := ⟨b, _, none⟩) hb).trans m0
          replace m1 := (HB.out.cell (p := ⟨b, _, none⟩) hb).trans m1
          replace m2 := (HB.out.cell (p := ⟨b, _, none⟩) hb).trans m2
          replace m3 := (HB.out.cell (p := ⟨b, _, none⟩) hb).trans m3
          replace m4 := (HB.out.cell (p := ⟨b, _, none⟩) hb).trans m4
          replace m5 := (HB.out.cell (p := ⟨b, _, none⟩) hb).trans m5
          clear hrow hx
          obtain ⟨xt, ⟨x0k, x0i⟩, ⟨x1k, x1i⟩, xA, xn, xc, xs⟩ := x
          simp only at m0 m1 m2 m3 m4 m5
          have ix0 : (0 : Int) ≤ (k : Int) := by omega
          have ix1 : (k : Int) < (len : Int) := by omega
          go_wp2_with fail
          refine wp_region_held_drew (S := (fun w' => w'.cell? ⟨w.heap.size, 0, none⟩ = some (.int .i64 n) ∧ w'.cell? ⟨w.heap.size, 1, none⟩ = some (.int .i64 f) ∧ w'.cell? ⟨w.heap.size, 2, none⟩ = some (.int .i64 c) ∧ w'.cell? ⟨w.heap.size, 3, none⟩ = some (.int .i64 v) ∧ w'.cell? ⟨w.heap.size, 4, none⟩ = some (.slice A2 n2 cap2) ∧ w'.cell? ⟨w.heap.size, 5, none⟩ = some (.slice (some ⟨b, off, none⟩) len cap) ∧ w'.cell? ⟨b, off + k * 6, none⟩ = some (.int .i64 xt) ∧ w'.cell? ⟨b, off + k * 6 + 1, none⟩ = some (.int .i64 x0k) ∧ w'.cell? ⟨b, off + k * 6 + 2, none⟩ = some (.int .i64 x0i) ∧ w'.cell? ⟨b, off + k * 6 + 3, none⟩ = some (.int .i64 x1k) ∧ w'.cell? ⟨b, off + k * 6 + 4, none⟩ = some (.int .i64 x1i) ∧ w'.cell? ⟨b, off + k * 6 + 5, none⟩ = some (.slice xA xn xc))) (by kernel_rfl) ?_ (fun hHeld => ?_)
          · go_keep
          refine Rgn.take 0 (v := ?_) rfl (by kernel_rfl) (by kernel_rfl) (by kernel_rfl) (fun _ _ _ h => h) (by kernel_rfl) ?_ (by assumption) ?_
          rotate_left
          · intro w hSw
            (try dsimp only at hSw)
            go_simp
            try with_reducible rfl
          try simp only [Act.put, List.setIfInBounds_toArray, List.set_cons_zero, List.set_cons_succ]
          refine Rgn.take 1 (v := ?_) rfl (by kernel_rfl) (by kernel_rfl) (by kernel_rfl) (fun _ _ _ h => h) (by kernel_rfl) ?_ (by assumption) ?_
          rotate_left
          · intro w hSw
            (try dsimp only at hSw)
            go_simp
            try with_reducible rfl
          try simp only [Act.put, List.setIfInBounds_toArray, List.set_cons_zero, List.set_cons_succ]
          refine Rgn.take 2 (v := ?_) rfl (by kernel_rfl) (by kernel_rfl) (by kernel_rfl) (fun _ _ _ h => h) (by kernel_rfl) ?_ (by assumption) ?_
          rotate_left
          · intro w hSw
            (try dsimp only at hSw)
            go_simp
            try with_reducible rfl
          try simp only [Act.put, List.setIfInBounds_toArray, List.set_cons_zero, List.set_cons_succ]
          refine Rgn.take 3 (v := ?_) rfl (by kernel_rfl) (by kernel_rfl) (by kernel_rfl) (fun _ _ _ h => h) (by kernel_rfl) ?_ (by assumption) ?_
          rotate_left
          · intro w hSw
            (try dsimp only at hSw)
            go_simp
            try with_reducible rfl
          try simp only [Act.put, List.setIfInBounds_toArray, List.set_cons_zero, List.set_cons_succ]
          refine Rgn.take 4 (v := ?_) rfl (by kernel_rfl) (by kernel_rfl) (by kernel_rfl) (fun _ _ _ h => h) (by kernel_rfl) ?_ (by assumption) ?_
          rotate_left
          · intro w hSw
            (try dsimp only at hSw)
            go_simp
            try with_reducible rfl
          try simp only [Act.put, List.setIfInBounds_toArray, List.set_cons_zero, List.set_cons_succ]
          refine Rgn.take 5 (v := ?_) rfl (by kernel_rfl) (by kernel_rfl) (by kernel_rfl) (fun _ _ _ h => h) (by kernel_rfl) ?_ (by assumption) ?_
          rotate_left
          · intro w hSw
            (try dsimp only at hSw)
            go_simp
            try with_reducible rfl
          try simp only [Act.put, List.setIfInBounds_toArray, List.set_cons_zero, List.set_cons_succ]
          refine Rgn.take 6 (v := ?_) rfl (by kernel_rfl) (by kernel_rfl) (by kernel_rfl) (fun _ _ _ h => h) (by kernel_rfl) ?_ (by assumption) ?_
          rotate_left
          · intro w hSw
            (try dsimp only at hSw)
            go_simp
            try with_reducible rfl
          try simp only [Act.put, List.setIfInBounds_toArray, List.set_cons_zero, List.set_cons_succ]
          refine Rgn.take 7 (v := ?_) rfl (by kernel_rfl) (by kernel_rfl) (by kernel_rfl) (fun _ _ _ h => h) (by kernel_rfl) ?_ (by assumption) ?_
          rotate_left
          · intro w hSw
            (try dsimp only at hSw)
            go_simp
            try with_reducible rfl
          try simp only [Act.put, List.setIfInBounds_toArray, List.set_cons_zero, List.set_cons_succ]
          refine Rgn.take 8 (v := ?_) rfl (by kernel_rfl) (by kernel_rfl) (by kernel_rfl) (fun _ _ _ h => h) (by kernel_rfl) ?_ (by assumption) ?_
          rotate_left
          · intro w hSw
            (try dsimp only at hSw)
            go_simp
            try with_reducible rfl
          try simp only [Act.put, List.setIfInBounds_toArray, List.set_cons_zero, List.set_cons_succ]
          refine Rgn.take 10 (v := ?_) rfl (by kernel_rfl) (by kernel_rfl) (by kernel_rfl) (fun _ _ _ h => h) (by kernel_rfl) ?_ (by assumption) ?_
          rotate_left
          · intro w hSw
            (try dsimp only at hSw)
            go_simp
            try with_reducible rfl
          try simp only [Act.put, List.setIfInBounds_toArray, List.set_cons_zero, List.set_cons_succ]
          refine Rgn.take 11 (v := ?_) rfl (by kernel_rfl) (by kernel_rfl) (by kernel_rfl) (fun _ _ _ h => h) (by kernel_rfl) ?_ (by assumption) ?_
          rotate_left
          · intro w hSw
            (try dsimp only at hSw)
            go_simp
            try with_reducible rfl
          try simp only [Act.put, List.setIfInBounds_toArray, List.set_cons_zero, List.set_cons_succ]
          refine Rgn.take 12 (v := ?_) rfl (by kernel_rfl) (by kernel_rfl) (by kernel_rfl) (fun _ _ _ h => h) (by kernel_rfl) ?_ (by assumption) ?_
          rotate_left
          · intro w hSw
            (try dsimp only at hSw)
            go_simp
            try with_reducible rfl
          try simp only [Act.put, List.setIfInBounds_toArray, List.set_cons_zero, List.set_cons_succ]
          refine Rgn.take 13 (v := ?_) rfl (by kernel_rfl) (by kernel_rfl) (by kernel_rfl) (fun _ _ _ h => h) (by kernel_rfl) ?_ (by assumption) ?_
          rotate_left
          · intro w hSw
            (try dsimp only at hSw)
            go_simp
            try with_reducible rfl
          try simp only [Act.put, List.setIfInBounds_toArray, List.set_cons_zero, List.set_cons_succ]
          refine Rgn.take 14 (v := ?_) rfl (by kernel_rfl) (by kernel_rfl) (by kernel_rfl) (fun _ _ _ h => h) (by kernel_rfl) ?_ (by assumption) ?_
          rotate_left
          · intro w hSw
            (try dsimp only at hSw)
            go_simp
            try with_reducible rfl
          try simp only [Act.put, List.setIfInBounds_toArray, List.set_cons_zero, List.set_cons_succ]
          refine Rgn.take 15 (v := ?_) rfl (by kernel_rfl) (by kernel_rfl) (by kernel_rfl) (fun _ _ _ h => h) (by kernel_rfl) ?_ (by assumption) ?_
          rotate_left
          · intro w hSw
            (try dsimp only at hSw)
            go_simp
            try with_reducible rfl
          try simp only [Act.put, List.setIfInBounds_toArray, List.set_cons_zero, List.set_cons_succ]
          refine Rgn.take 16 (v := ?_) rfl (by kernel_rfl) (by kernel_rfl) (by kernel_rfl) (fun _ _ _ h => h) (by kernel_rfl) ?_ (by assumption) ?_
          rotate_left
          · intro w hSw
            (try dsimp only at hSw)
            go_simp
            try with_reducible rfl
          try simp only [Act.put, List.setIfInBounds_toArray, List.set_cons_zero, List.set_cons_succ]
          refine Rgn.take 17 (v := ?_) rfl (by kernel_rfl) (by kernel_rfl) (by kernel_rfl) (fun _ _ _ h => h) (by kernel_rfl) ?_ (by assumption) ?_
          rotate_left
          · intro w hSw
            (try dsimp only at hSw)
            go_simp
            try with_reducible rfl
          try simp only [Act.put, List.setIfInBounds_toArray, List.set_cons_zero, List.set_cons_succ]
          refine Rgn.take 18 (v := ?_) rfl (by kernel_rfl) (by kernel_rfl) (by kernel_rfl) (fun _ _ _ h => h) (by kernel_rfl) ?_ (by assumption) ?_
          rotate_left
          · intro w hSw
            (try dsimp only at hSw)
            go_simp
            try with_reducible rfl
          try simp only [Act.put, List.setIfInBounds_toArray, List.set_cons_zero, List.set_cons_succ]
          refine Rgn.one 9 rfl (by kernel_rfl) (fun K hK => ?_)
          go_simp
          refine (K5.out _ _ _ _ _ _ _ HB.out.drew).mono ?_
          rintro e p1 ⟨rfl, q1⟩
          replace z0 := Kit.cell_below q1 z0
          replace z1 := Kit.cell_below q1 z1
          replace z2 := Kit.cell_below q1 z2
          replace z3 := Kit.cell_below q1 z3
          replace z4 := Kit.cell_below q1 z4
          replace z5 := Kit.cell_below q1 z5
          replace m0 := Kit.cell_below q1 m0
          replace m1 := Kit.cell_below q1 m1
          replace m2 := Kit.cell_below q1 m2
          replace m3 := Kit.cell_below q1 m3
          replace m4 := Kit.cell_below q1 m4
          replace m5 := Kit.cell_below q1 m5
          have D1 := Lib.hid (HB.out.drew.trans (q1.mono HB.out.drew.size))
          clear q1
          go_simp
          refine hK.out _ _ ?_ (fun hHeld => ?_)
          · go_keep
          clear hK K
          try simp only [Act.put, List.setIfInBounds_toArray, List.set_cons_zero, List.set_cons_succ]
          refine Rgn.one 19 rfl (by kernel_rfl) (fun K hK => ?_)
          go_simp
          refine (K6.out _ _ _ _ _ _ _ D1.out).mono ?_
          rintro e p2 ⟨rfl, q2⟩
          replace z0 := Kit.cell_below q2 z0
          replace z1 := Kit.cell_below q2 z1
          replace z2 := Kit.cell_below q2 z2
          replace z3 := Kit.cell_below q2 z3
          replace z4 := Kit.cell_below q2 z4
          replace z5 := Kit.cell_below q2 z5
          replace m0 := Kit.cell_below q2 m0
          replace m1 := Kit.cell_below q2 m1
          replace m2 := Kit.cell_below q2 m2
          replace m3 := Kit.cell_below q2 m3
          replace m4 := Kit.cell_below q2 m4
          replace m5 := Kit.cell_below q2 m5
          have D2 := Lib.hid (D1.out.trans (q2.mono D1.out.size))
          clear q2
          go_simp
          refine hK.out _ _ ?_ (fun hHeld => ?_)
          · go_keep
          clear hK K
          try simp only [Act.put, List.setIfInBounds_toArray, List.set_cons_zero, List.set_cons_succ]
          refine Rgn.take 20 (v := ?_) rfl (by kernel_rfl) (by kernel_rfl) (by kernel_rfl) (fun _ _ _ h => h) (by kernel_rfl) ?_ (by assumption) ?_
          rotate_left
          · intro w hSw
            (try dsimp only at hSw)
            go_simp
            try with_reducible rfl
          try simp only [Act.put, List.setIfInBounds_toArray, List.set_cons_zero, List.set_cons_succ]
          refine wpAnyH_done (by kernel_rfl) ?_ _
          go_wp2_with fail
          go_roundw
          case rel => exact ⟨k + 1, by omega, by go_num, ⟨z0, z1, z2, z3, z4, z5⟩, D2⟩
          case measure => simp [intOf]; omega
        · obtain rfl : k = len := by omega
          go_wp2_with fail
          refine (Rd.awake_calls _).mono ?_
          rintro e wA ⟨rfl, bA⟩
          go_wp2_with fail
          go_ret
          exact ⟨by simp, Kit.chain HB.out bA⟩
  · have g20 : decide ((20 : Int) < (n2 : Int)) = true := by simp; omega
    go_enter Try.func21, Try.ntmps21
    go_wp2_with fail
    refine (Rd.may_calls A len cap l _ (HL.out.below (Kit.alloc1 ..)) hlen).mono ?_
    rintro e w1 ⟨bb, rfl, hbb, rfl⟩
    clear hbb
    cases bb
    all_goals
      go_wp2_with fail
      refine (Rd.awake_calls _).mono ?_
      rintro e wA ⟨rfl, bA⟩
      go_wp2_with fail
      go_ret
      exact ⟨rfl, Kit.chain (Kit.alloc1 ..) bA⟩

theorem walk (v : Value) {w : World} (w0 : Op.IsRAsk w v) (w' : World) (hw : w' = w := by rfl) :
    Calls Try.prog 21 #[v] w fun e w' => e = .returned (.bool true) ∧ Below w.heap.size w w' := by
  obtain ⟨n, f, c, u, x, y, rfl, _, hf, _, _, hx, hy⟩ := w0
  obtain ⟨A2, n2, cap2, ah, rfl, hm2, hah, _⟩ := hx
  obtain ⟨A, len, cap, l, rfl, hm, hl, hc, hnil⟩ := hy
  unfold maxLen at hm hm2
  exact walk1 n f c u A A2 len cap n2 cap2 l ah w hl hah (by omega) (by omega) hc hnil hf.1 hf.2
end Go.Proofs.Ytpbkoooljelhjaa.RoundTells
