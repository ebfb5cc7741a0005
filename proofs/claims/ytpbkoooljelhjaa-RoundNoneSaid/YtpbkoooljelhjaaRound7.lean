/-
  The walk of daybreakref22.Wrong.
-/
import Derived.Test.YtpbkoooljelhjaaRound6
namespace Go.Proofs.Ytpbkoooljelhjaa
set_option linter.unusedVariables false
set_option linter.unusedSimpArgs false
open Go.RowKit

set_option maxHeartbeats 4000000 in
set_option maxRecDepth 100000 in
/-- daybreakref22.Wrong. -/
theorem Rd.rwrong_calls (c v f : Int) (A : Option Addr) (len cap : Nat) (l : List Lk) (w : World) (hl : Looks w A len l) (hlen : len ≤ 1000000) (hm : ∀ x ∈ l, x.n ≤ 1000000) (hf1 : -9223372036854775808 ≤ f) (hf2 : f ≤ 9223372036854775807) :
    Calls Try.prog 83 #[.agg #[.int .i64 c, .int .i64 v], .slice A len cap, .int .i64 f] w fun e w' => e = .returned (Sy.firstV (Rd.wrong c v f l)) ∧ Below w.heap.size w w' := by
  have HL := Lib.hid hl
  have HM := Lib.hid hm
  have hll := hl.len
  have HLL := Lib.hid hll
  clear hl hm hll
  by_cases hneg : f < 0
  · have hd : decide (f < 0) = true := decide_eq_true hneg
    have HR := Lib.hid (Rd.wrong_miss (c := c) (v := v) (f := f) (l := l) (fun h => absurd h (by omega)))
    go_enter Try.func83, Try.ntmps83
    go_wp2_with fail
    go_ret2
    exact ⟨by rw [HR.out]; rfl, Kit.alloc1 ..⟩
  · obtain ⟨g, rfl⟩ := Int.eq_ofNat_of_zero_le (show 0 ≤ f by omega)
    have hd : decide ((g : Int) < 0) = false := by simp
    go_enter Try.func83, Try.ntmps83
    go_wp2_with fail
    go_loopw [8] (fun vi wr => ∃ k : Nat, (1 ≤ k ∧ k ≤ len + 1) ∧ vi = .int .i64 k ∧ wr.cell? ⟨w.heap.size, 0, none⟩ = some (.int .i64 c) ∧ wr.cell? ⟨w.heap.size, 1, none⟩ = some (.int .i64 v) ∧ Hid (Below w.heap.size w wr) ∧ Hid (∀ (j : Nat), j < k → Rd.wrongAt c v g l j = false)) (fun vi _ => len + 1 - (intOf vi).toNat)
    case atStart => exact ⟨1, ⟨by omega, by omega⟩, by go_num, by go_simp, by go_simp, Lib.hid (Kit.alloc1 ..), Lib.hid (fun j h => by unfold Rd.wrongAt; rw [decide_eq_false (by omega)]; rfl)⟩
    case round =>
      obtain ⟨k, ⟨h1k, hk⟩, rfl, c0, c1, HB, HA⟩ := hrel
      have hws := World.block_lt_of_cell? wr ⟨w.heap.size, 0, none⟩ c0
      by_cases hlt : k < len
      · obtain ⟨j, rfl⟩ : ∃ j, k = j + 1 := ⟨k - 1, by omega⟩
        obtain ⟨b, off, rfl, hb, hrow⟩ := HL.out.row (by omega)
        have hkl : j + 1 < l.length := by rw [HLL.out]; exact hlt
        obtain ⟨x, hx⟩ : ∃ x, l[j + 1]? = some x := ⟨_, List.getElem?_eq_getElem hkl⟩
        obtain ⟨y, hy⟩ : ∃ y, l[j]? = some y := ⟨_, List.getElem?_eq_getElem (by omega)⟩
        obtain ⟨m0, m1, m2, m3, m4, m5⟩ := hrow (j + 1) x hx
        have n5 := (hrow j y hy).2.2.2.2.2
        replace m0 := (HB.out.cell (p := ⟨b, _, none⟩) hb).trans m0
        replace m1 := (HB.out.cell (p := ⟨b, _, none⟩) hb).trans m1
        replace m2 := (HB.out.cell (p := ⟨b, _, none⟩) hb).trans m2
        replace m3 := (HB.out.cell (p := ⟨b, _, none⟩) hb).trans m3
        replace m4 := (HB.out.cell (p := ⟨b, _, none⟩) hb).trans m4
        replace m5 := (HB.out.cell (p := ⟨b, _, none⟩) hb).trans m5
        replace n5 := (HB.out.cell (p := ⟨b, _, none⟩) hb).trans n5
        have hty := HL.out.there y (List.mem_of_getElem? hy)
        have hyn := HM.out y (List.mem_of_getElem? hy)
        have hwa : Rd.wrongAt c v g l (j + 1) = (decide ((g : Int) < ((j + 1 : Nat) : Int)) && !Rd.order c v y.nodes x.r0 x.r1) := by
          unfold Rd.wrongAt
          rw [Nat.add_sub_cancel, Sy.nodesAt_of hy, Sy.getD_of hx]
        have k1 := fun W (hW : Below w.heap.size w W) => Rd.rorder_calls c v x.tick x.r0.k x.r0.i x.r1.k x.r1.i y.at_ y.n y.cap y.nodes (.slice x.at_ x.n x.cap) W (hty.nodes.below hW) hyn
        have HWA := Lib.hid hwa
        have K1 := Lib.hid k1
        clear hrow hx hy hty hyn k1 hwa
        obtain ⟨xt, ⟨x0k, x0i⟩, ⟨x1k, x1i⟩, xA, xn, xc, xs⟩ := x
        obtain ⟨yt, ⟨y0k, y0i⟩, ⟨y1k, y1i⟩, yA, yn, yc, ys⟩ := y
        simp only at m0 m1 m2 m3 m4 m5 n5 K1 HWA
        have ix0 : (0 : Int) ≤ (j : Int) := by omega
        have ix1 : (j : Int) < (len : Int) := by omega
        have ix2 : (0 : Int) ≤ (j : Int) + 1 := by omega
        have ix3 : (j : Int) + 1 < (len : Int) := by omega
        have sw : IntKind.i64.wrap ((j : Int) + 1 - 1) = (j : Int) := by rw [show (j : Int) + 1 - 1 = (j : Int) by omega]; exact IntWalk.i64_in _ (by omega)
        have sw2 : IntKind.i64.wrap (j : Int) = (j : Int) := IntWalk.i64_in _ (by omega)
        have sw3 : IntKind.i64.wrap ((j : Int) + 1) = (j : Int) + 1 := IntWalk.i64_in _ (by omega)
        have sw4 : ((j : Int) + 1).toNat = j + 1 := by omega
        have SW := Lib.hid (And.intro sw (And.intro sw2 (And.intro sw3 sw4)))
        clear sw sw2 sw3 sw4
        by_cases hgj : g < j + 1
        · have gd : decide ((g : Int) < (j : Int) + 1) = true := by simp; omega
          have gn : decide (g < j + 1) = true := decide_eq_true hgj
          cases ho : Rd.order c v ys ⟨x0k, x0i⟩ ⟨x1k, x1i⟩ with
          | true =>
            have HA2 : Hid (∀ (i : Nat), i < j + 1 + 1 → Rd.wrongAt c v g l i = false) := Lib.hid (fun i hi => by
              by_cases e : i = j + 1
              · rw [e, HWA.out, ho]; simp
              · exact HA.out i (by omega))
            rw [ho] at K1
            clear ho
            go_wp2_with fail
            obtain ⟨sw, sw2, sw3, sw4⟩ := SW.out
            refine wp_region_held_drew (S := (fun w' => w'.cell? ⟨w.heap.size, 0, none⟩ = some (.int .i64 c) ∧ w'.cell? ⟨w.heap.size, 1, none⟩ = some (.int .i64 v) ∧ w'.cell? ⟨b, off + (j + 1) * 6, none⟩ = some (.int .i64 xt) ∧ w'.cell? ⟨b, off + (j + 1) * 6 + 1, none⟩ = some (.int .i64 x0k) ∧ w'.cell? ⟨b, off + (j + 1) * 6 + 2, none⟩ = some (.int .i64 x0i) ∧ w'.cell? ⟨b, off + (j + 1) * 6 + 3, none⟩ = some (.int .i64 x1k) ∧ w'.cell? ⟨b, off + (j + 1) * 6 + 4, none⟩ = some (.int .i64 x1i) ∧ w'.cell? ⟨b, off + (j + 1) * 6 + 5, none⟩ = some (.slice xA xn xc) ∧ w'.cell? ⟨b, off + j * 6 + 5, none⟩ = some (.slice yA yn yc))) (by kernel_rfl) ?_ (fun hHeld => ?_)
            · go_keep
            refine Rgn.take 0 (v := ?_) rfl (by kernel_rfl) (by kernel_rfl) (by kernel_rfl) (fun _ _ _ h => h) (by kernel_rfl) ?_ (by assumption) ?_
            rotate_left
            · intro w hSw
              (try dsimp only at hSw)
              go_simp
              try with_reducible rfl
            try simp only [Act.put, List.setIfInBounds_toArray, List.set_cons_zero, List.set_cons_succ]
            refine Rgn.take 1 (v := ?_) rfl (by kernel_rfl) (by kernel_rfl) (by kernel_rfl) (fun _ _ _ h => h) (by kernel_rfl) ?_ (by assumption) ?_
            rotate_left
            · intro w hSw
              (try dsimp only at hSw)
              go_simp
              try with_reducible rfl
            try simp only [Act.put, List.setIfInBounds_toArray, List.set_cons_zero, List.set_cons_succ]
            refine Rgn.take 2 (v := ?_) rfl (by kernel_rfl) (by kernel_rfl) (by kernel_rfl) (fun _ _ _ h => h) (by kernel_rfl) ?_ (by assumption) ?_
            rotate_left
            · intro w hSw
              (try dsimp only at hSw)
              go_simp
              try with_reducible rfl
            try simp only [Act.put, List.setIfInBounds_toArray, List.set_cons_zero, List.set_cons_succ]
            refine Rgn.take 3 (v := ?_) rfl (by kernel_rfl) (by kernel_rfl) (by kernel_rfl) (fun _ _ _ h => h) (by kernel_rfl) ?_ (by assumption) ?_
            rotate_left
            · intro w hSw
              (try dsimp only at hSw)
              go_simp
              try with_reducible rfl
            try simp only [Act.put, List.setIfInBounds_toArray, List.set_cons_zero, List.set_cons_succ]
            refine Rgn.take 4 (v := ?_) rfl (by kernel_rfl) (by kernel_rfl) (by kernel_rfl) (fun _ _ _ h => h) (by kernel_rfl) ?_ (by assumption) ?_
            rotate_left
            · intro w hSw
              (try dsimp only at hSw)
              go_simp
              try with_reducible rfl
            try simp only [Act.put, List.setIfInBounds_toArray, List.set_cons_zero, List.set_cons_succ]
            refine Rgn.take 5 (v := ?_) rfl (by kernel_rfl) (by kernel_rfl) (by kernel_rfl) (fun _ _ _ h => h) (by kernel_rfl) ?_ (by assumption) ?_
            rotate_left
            · intro w hSw
              (try dsimp only at hSw)
              go_simp
              try with_reducible rfl
            try simp only [Act.put, List.setIfInBounds_toArray, List.set_cons_zero, List.set_cons_succ]
            refine Rgn.take 6 (v := ?_) rfl (by kernel_rfl) (by kernel_rfl) (by kernel_rfl) (fun _ _ _ h => h) (by kernel_rfl) ?_ (by assumption) ?_
            rotate_left
            · intro w hSw
              (try dsimp only at hSw)
              go_simp
              try with_reducible rfl
            try simp only [Act.put, List.setIfInBounds_toArray, List.set_cons_zero, List.set_cons_succ]
            refine Rgn.take 7 (v := ?_) rfl (by kernel_rfl) (by kernel_rfl) (by kernel_rfl) (fun _ _ _ h => h) (by kernel_rfl) ?_ (by assumption) ?_
            rotate_left
            · intro w hSw
              (try dsimp only at hSw)
              go_simp
              try with_reducible rfl
            try simp only [Act.put, List.setIfInBounds_toArray, List.set_cons_zero, List.set_cons_succ]
            refine Rgn.take 8 (v := ?_) rfl (by kernel_rfl) (by kernel_rfl) (by kernel_rfl) (fun _ _ _ h => h) (by kernel_rfl) ?_ (by assumption) ?_
            rotate_left
            · intro w hSw
              (try dsimp only at hSw)
              go_simp
              try with_reducible rfl
            try simp only [Act.put, List.setIfInBounds_toArray, List.set_cons_zero, List.set_cons_succ]
            refine Rgn.take 9 (v := ?_) rfl (by kernel_rfl) (by kernel_rfl) (by kernel_rfl) (fun _ _ _ h => h) (by kernel_rfl) ?_ (by assumption) ?_
            rotate_left
            · intro w hSw
              (try dsimp only at hSw)
              go_simp
              try with_reducible rfl
            try simp only [Act.put, List.setIfInBounds_toArray, List.set_cons_zero, List.set_cons_succ]
            refine Rgn.take 10 (v := ?_) rfl (by kernel_rfl) (by kernel_rfl) (by kernel_rfl) (fun _ _ _ h => h) (by kernel_rfl) ?_ (by assumption) ?_
            rotate_left
            · intro w hSw
              (try dsimp only at hSw)
              go_simp
              try with_reducible rfl
            try simp only [Act.put, List.setIfInBounds_toArray, List.set_cons_zero, List.set_cons_succ]
            refine Rgn.take 11 (v := ?_) rfl (by kernel_rfl) (by kernel_rfl) (by kernel_rfl) (fun _ _ _ h => h) (by kernel_rfl) ?_ (by assumption) ?_
            rotate_left
            · intro w hSw
              (try dsimp only at hSw)
              go_simp
              try with_reducible rfl
            try simp only [Act.put, List.setIfInBounds_toArray, List.set_cons_zero, List.set_cons_succ]
            refine Rgn.take 12 (v := ?_) rfl (by kernel_rfl) (by kernel_rfl) (by kernel_rfl) (fun _ _ _ h => h) (by kernel_rfl) ?_ (by assumption) ?_
            rotate_left
            · intro w hSw
              (try dsimp only at hSw)
              go_simp
              try with_reducible rfl
            try simp only [Act.put, List.setIfInBounds_toArray, List.set_cons_zero, List.set_cons_succ]
            refine Rgn.take 13 (v := ?_) rfl (by kernel_rfl) (by kernel_rfl) (by kernel_rfl) (fun _ _ _ h => h) (by kernel_rfl) ?_ (by assumption) ?_
            rotate_left
            · intro w hSw
              (try dsimp only at hSw)
              go_simp
              try with_reducible rfl
            try simp only [Act.put, List.setIfInBounds_toArray, List.set_cons_zero, List.set_cons_succ]
            refine Rgn.take 14 (v := ?_) rfl (by kernel_rfl) (by kernel_rfl) (by kernel_rfl) (fun _ _ _ h => h) (by kernel_rfl) ?_ (by assumption) ?_
            rotate_left
            · intro w hSw
              (try dsimp only at hSw)
              go_simp
              try with_reducible rfl
            try simp only [Act.put, List.setIfInBounds_toArray, List.set_cons_zero, List.set_cons_succ]
            refine Rgn.one 15 rfl (by kernel_rfl) (fun K hK => ?_)
            go_simp
            refine (K1.out _ HB.out.drew).mono ?_
            rintro e wq ⟨rfl, bq⟩
            replace c0 := Kit.cell_below bq c0
            replace c1 := Kit.cell_below bq c1
            replace m0 := Kit.cell_below bq m0
            replace m1 := Kit.cell_below bq m1
            replace m2 := Kit.cell_below bq m2
            replace m3 := Kit.cell_below bq m3
            replace m4 := Kit.cell_below bq m4
            replace m5 := Kit.cell_below bq m5
            replace n5 := Kit.cell_below bq n5
            have B1 := Lib.hid (HB.out.drew.trans (bq.mono HB.out.drew.size))
            clear bq
            go_simp
            refine hK.out _ _ ?_ (fun hHeld => ?_)
            · go_keep
            clear hK K
            try simp only [Act.put, List.setIfInBounds_toArray, List.set_cons_zero, List.set_cons_succ]
            refine Rgn.take 16 (v := ?_) rfl (by kernel_rfl) (by kernel_rfl) (by kernel_rfl) (fun _ _ _ h => h) (by kernel_rfl) ?_ (by assumption) ?_
            rotate_left
            · intro w hSw
              (try dsimp only at hSw)
              go_simp
              try with_reducible rfl
            try simp only [Act.put, List.setIfInBounds_toArray, List.set_cons_zero, List.set_cons_succ]
            refine Rgn.take 17 (v := ?_) rfl (by kernel_rfl) (by kernel_rfl) (by kernel_rfl) (fun _ _ _ h => h) (by kernel_rfl) ?_ (by assumption) ?_
            rotate_left
            · intro w hSw
              (try dsimp only at hSw)
              go_simp
              try with_reducible rfl
            try simp only [Act.put, List.setIfInBounds_toArray, List.set_cons_zero, List.set_cons_succ]
            refine wpAnyH_done (by kernel_rfl) ?_ _
            clear sw sw2 sw3 sw4
            go_wp2_with fail
            go_roundw
            case rel => exact ⟨j + 1 + 1, ⟨by omega, by omega⟩, by go_num, c0, c1, B1, HA2⟩
            case measure => simp [intOf]; omega
          | false =>
            have HR := Lib.hid (Rd.wrong_hit (c := c) (v := v) (by omega) hkl (by rw [HWA.out, ho, decide_eq_true (by omega)]; rfl) HA.out)
            rw [ho] at K1
            clear ho
            go_wp2_with fail
            obtain ⟨sw, sw2, sw3, sw4⟩ := SW.out
            refine wp_region_held_drew (S := (fun w' => w'.cell? ⟨w.heap.size, 0, none⟩ = some (.int .i64 c) ∧ w'.cell? ⟨w.heap.size, 1, none⟩ = some (.int .i64 v) ∧ w'.cell? ⟨b, off + (j + 1) * 6, none⟩ = some (.int .i64 xt) ∧ w'.cell? ⟨b, off + (j + 1) * 6 + 1, none⟩ = some (.int .i64 x0k) ∧ w'.cell? ⟨b, off + (j + 1) * 6 + 2, none⟩ = some (.int .i64 x0i) ∧ w'.cell? ⟨b, off + (j + 1) * 6 + 3, none⟩ = some (.int .i64 x1k) ∧ w'.cell? ⟨b, off + (j + 1) * 6 + 4, none⟩ = some (.int .i64 x1i) ∧ w'.cell? ⟨b, off + (j + 1) * 6 + 5, none⟩ = some (.slice xA xn xc) ∧ w'.cell? ⟨b, off + j * 6 + 5, none⟩ = some (.slice yA yn yc))) (by kernel_rfl) ?_ (fun hHeld => ?_)
            · go_keep
            refine Rgn.take 0 (v := ?_) rfl (by kernel_rfl) (by kernel_rfl) (by kernel_rfl) (fun _ _ _ h => h) (by kernel_rfl) ?_ (by assumption) ?_
            rotate_left
            · intro w hSw
              (try dsimp only at hSw)
              go_simp
              try with_reducible rfl
            try simp only [Act.put, List.setIfInBounds_toArray, List.set_cons_zero, List.set_cons_succ]
            refine Rgn.take 1 (v := ?_) rfl (by kernel_rfl) (by kernel_rfl) (by kernel_rfl) (fun _ _ _ h => h) (by kernel_rfl) ?_ (by assumption) ?_
            rotate_left
            · intro w hSw
              (try dsimp only at hSw)
              go_simp
              try with_reducible rfl
            try simp only [Act.put, List.setIfInBounds_toArray, List.set_cons_zero, List.set_cons_succ]
            refine Rgn.take 2 (v := ?_) rfl (by kernel_rfl) (by kernel_rfl) (by kernel_rfl) (fun _ _ _ h => h) (by kernel_rfl) ?_ (by assumption) ?_
            rotate_left
            · intro w hSw
              (try dsimp only at hSw)
              go_simp
              try with_reducible rfl
            try simp only [Act.put, List.setIfInBounds_toArray, List.set_cons_zero, List.set_cons_succ]
            refine Rgn.take 3 (v := ?_) rfl (by kernel_rfl) (by kernel_rfl) (by kernel_rfl) (fun _ _ _ h => h) (by kernel_rfl) ?_ (by assumption) ?_
            rotate_left
            · intro w hSw
              (try dsimp only at hSw)
              go_simp
              try with_reducible rfl
            try simp only [Act.put, List.setIfInBounds_toArray, List.set_cons_zero, List.set_cons_succ]
            refine Rgn.take 4 (v := ?_) rfl (by kernel_rfl) (by kernel_rfl) (by kernel_rfl) (fun _ _ _ h => h) (by kernel_rfl) ?_ (by assumption) ?_
            rotate_left
            · intro w hSw
              (try dsimp only at hSw)
              go_simp
              try with_reducible rfl
            try simp only [Act.put, List.setIfInBounds_toArray, List.set_cons_zero, List.set_cons_succ]
            refine Rgn.take 5 (v := ?_) rfl (by kernel_rfl) (by kernel_rfl) (by kernel_rfl) (fun _ _ _ h => h) (by kernel_rfl) ?_ (by assumption) ?_
            rotate_left
            · intro w hSw
              (try dsimp only at hSw)
              go_simp
              try with_reducible rfl
            try simp only [Act.put, List.setIfInBounds_toArray, List.set_cons_zero, List.set_cons_succ]
            refine Rgn.take 6 (v := ?_) rfl (by kernel_rfl) (by kernel_rfl) (by kernel_rfl) (fun _ _ _ h => h) (by kernel_rfl) ?_ (by assumption) ?_
            rotate_left
            · intro w hSw
              (try dsimp only at hSw)
              go_simp
              try with_reducible rfl
            try simp only [Act.put, List.setIfInBounds_toArray, List.set_cons_zero, List.set_cons_succ]
            refine Rgn.take 7 (v := ?_) rfl (by kernel_rfl) (by kernel_rfl) (by kernel_rfl) (fun _ _ _ h => h) (by kernel_rfl) ?_ (by assumption) ?_
            rotate_left
            · intro w hSw
              (try dsimp only at hSw)
              go_simp
              try with_reducible rfl
            try simp only [Act.put, List.setIfInBounds_toArray, List.set_cons_zero, List.set_cons_succ]
            refine Rgn.take 8 (v := ?_) rfl (by kernel_rfl) (by kernel_rfl) (by kernel_rfl) (fun _ _ _ h => h) (by kernel_rfl) ?_ (by assumption) ?_
            rotate_left
            · intro w hSw
              (try dsimp only at hSw)
              go_simp
              try with_reducible rfl
            try simp only [Act.put, List.setIfInBounds_toArray, List.set_cons_zero, List.set_cons_succ]
            refine Rgn.take 9 (v := ?_) rfl (by kernel_rfl) (by kernel_rfl) (by kernel_rfl) (fun _ _ _ h => h) (by kernel_rfl) ?_ (by assumption) ?_
            rotate_left
            · intro w hSw
              (try dsimp only at hSw)
              go_simp
              try with_reducible rfl
            try simp only [Act.put, List.setIfInBounds_toArray, List.set_cons_zero, List.set_cons_succ]
            refine Rgn.take 10 (v := ?_) rfl (by kernel_rfl) (by kernel_rfl) (by kernel_rfl) (fun _ _ _ h => h) (by kernel_rfl) ?_ (by assumption) ?_
            rotate_left
            · intro w hSw
              (try dsimp only at hSw)
              go_simp
              try with_reducible rfl
            try simp only [Act.put, List.setIfInBounds_toArray, List.set_cons_zero, List.set_cons_succ]
            refine Rgn.take 11 (v := ?_) rfl (by kernel_rfl) (by kernel_rfl) (by kernel_rfl) (fun _ _ _ h => h) (by kernel_rfl) ?_ (by assumption) ?_
            rotate_left
            · intro w hSw
              (try dsimp only at hSw)
              go_simp
              try with_reducible rfl
            try simp only [Act.put, List.setIfInBounds_toArray, List.set_cons_zero, List.set_cons_succ]
            refine Rgn.take 12 (v := ?_) rfl (by kernel_rfl) (by kernel_rfl) (by kernel_rfl) (fun _ _ _ h => h) (by kernel_rfl) ?_ (by assumption) ?_
            rotate_left
            · intro w hSw
              (try dsimp only at hSw)
              go_simp
              try with_reducible rfl
            try simp only [Act.put, List.setIfInBounds_toArray, List.set_cons_zero, List.set_cons_succ]
            refine Rgn.take 13 (v := ?_) rfl (by kernel_rfl) (by kernel_rfl) (by kernel_rfl) (fun _ _ _ h => h) (by kernel_rfl) ?_ (by assumption) ?_
            rotate_left
            · intro w hSw
              (try dsimp only at hSw)
              go_simp
              try with_reducible rfl
            try simp only [Act.put, List.setIfInBounds_toArray, List.set_cons_zero, List.set_cons_succ]
            refine Rgn.take 14 (v := ?_) rfl (by kernel_rfl) (by kernel_rfl) (by kernel_rfl) (fun _ _ _ h => h) (by kernel_rfl) ?_ (by assumption) ?_
            rotate_left
            · intro w hSw
              (try dsimp only at hSw)
              go_simp
              try with_reducible rfl
            try simp only [Act.put, List.setIfInBounds_toArray, List.set_cons_zero, List.set_cons_succ]
            refine Rgn.one 15 rfl (by kernel_rfl) (fun K hK => ?_)
            go_simp
            refine (K1.out _ HB.out.drew).mono ?_
            rintro e wq ⟨rfl, bq⟩
            replace c0 := Kit.cell_below bq c0
            replace c1 := Kit.cell_below bq c1
            replace m0 := Kit.cell_below bq m0
            replace m1 := Kit.cell_below bq m1
            replace m2 := Kit.cell_below bq m2
            replace m3 := Kit.cell_below bq m3
            replace m4 := Kit.cell_below bq m4
            replace m5 := Kit.cell_below bq m5
            replace n5 := Kit.cell_below bq n5
            have B1 := Lib.hid (HB.out.drew.trans (bq.mono HB.out.drew.size))
            clear bq
            go_simp
            refine hK.out _ _ ?_ (fun hHeld => ?_)
            · go_keep
            clear hK K
            try simp only [Act.put, List.setIfInBounds_toArray, List.set_cons_zero, List.set_cons_succ]
            refine Rgn.take 16 (v := ?_) rfl (by kernel_rfl) (by kernel_rfl) (by kernel_rfl) (fun _ _ _ h => h) (by kernel_rfl) ?_ (by assumption) ?_
            rotate_left
            · intro w hSw
              (try dsimp only at hSw)
              go_simp
              try with_reducible rfl
            try simp only [Act.put, List.setIfInBounds_toArray, List.set_cons_zero, List.set_cons_succ]
            refine Rgn.take 17 (v := ?_) rfl (by kernel_rfl) (by kernel_rfl) (by kernel_rfl) (fun _ _ _ h => h) (by kernel_rfl) ?_ (by assumption) ?_
            rotate_left
            · intro w hSw
              (try dsimp only at hSw)
              go_simp
              try with_reducible rfl
            try simp only [Act.put, List.setIfInBounds_toArray, List.set_cons_zero, List.set_cons_succ]
            refine wpAnyH_done (by kernel_rfl) ?_ _
            clear sw sw2 sw3 sw4
            go_wp2_with fail
            go_ret2
            exact ⟨by rw [HR.out]; rfl, B1.out⟩
        · have gd : decide ((g : Int) < (j : Int) + 1) = false := by simp; omega
          have gn : decide (g < j + 1) = false := decide_eq_false hgj
          have HA2 : Hid (∀ (i : Nat), i < j + 1 + 1 → Rd.wrongAt c v g l i = false) := Lib.hid (fun i hi => by
            by_cases e : i = j + 1
            · rw [e, HWA.out, decide_eq_false (by omega)]; rfl
            · exact HA.out i (by omega))
          go_wp2_with fail
          refine wp_region_held_drew (S := (fun w' => w'.cell? ⟨w.heap.size, 0, none⟩ = some (.int .i64 c) ∧ w'.cell? ⟨w.heap.size, 1, none⟩ = some (.int .i64 v) ∧ w'.cell? ⟨b, off + (j + 1) * 6, none⟩ = some (.int .i64 xt) ∧ w'.cell? ⟨b, off + (j + 1) * 6 + 1, none⟩ = some (.int .i64 x0k) ∧ w'.cell? ⟨b, off + (j + 1) * 6 + 2, none⟩ = some (.int .i64 x0i) ∧ w'.cell? ⟨b, off + (j + 1) * 6 + 3, none⟩ = some (.int .i64 x1k) ∧ w'.cell? ⟨b, off + (j + 1) * 6 + 4, none⟩ = some (.int .i64 x1i) ∧ w'.cell? ⟨b, off + (j + 1) * 6 + 5, none⟩ = some (.slice xA xn xc) ∧ w'.cell? ⟨b, off + j * 6 + 5, none⟩ = some (.slice yA yn yc))) (by kernel_rfl) ?_ (fun hHeld => ?_)
          · go_keep
          refine Rgn.take 0 (v := ?_) rfl (by kernel_rfl) (by kernel_rfl) (by kernel_rfl) (fun _ _ _ h => h) (by kernel_rfl) ?_ (by assumption) ?_
          rotate_left
          · intro w hSw
            (try dsimp only at hSw)
            go_simp
            try with_reducible rfl
          try simp only [Act.put, List.setIfInBounds_toArray, List.set_cons_zero, List.set_cons_succ]
          refine Rgn.take 1 (v := ?_) rfl (by kernel_rfl) (by kernel_rfl) (by kernel_rfl) (fun _ _ _ h => h) (by kernel_rfl) ?_ (by assumption) ?_
          rotate_left
          · intro w hSw
            (try dsimp only at hSw)
            go_simp
            try with_reducible rfl
          try simp only [Act.put, List.setIfInBounds_toArray, List.set_cons_zero, List.set_cons_succ]
          refine Rgn.take 2 (v := ?_) rfl (by kernel_rfl) (by kernel_rfl) (by kernel_rfl) (fun _ _ _ h => h) (by kernel_rfl) ?_ (by assumption) ?_
          rotate_left
          · intro w hSw
            (try dsimp only at hSw)
            go_simp
            try with_reducible rfl
          try simp only [Act.put, List.setIfInBounds_toArray, List.set_cons_zero, List.set_cons_succ]
          refine Rgn.take 3 (v := ?_) rfl (by kernel_rfl) (by kernel_rfl) (by kernel_rfl) (fun _ _ _ h => h) (by kernel_rfl) ?_ (by assumption) ?_
          rotate_left
          · intro w hSw
            (try dsimp only at hSw)
            go_simp
            try with_reducible rfl
          try simp only [Act.put, List.setIfInBounds_toArray, List.set_cons_zero, List.set_cons_succ]
          refine Rgn.skip 4 rfl (by kernel_rfl) (by kernel_rfl) (by kernel_rfl) (fun _ _ _ h => h) (by kernel_rfl) (by assumption) ?_
          try simp only [Act.put, List.setIfInBounds_toArray, List.set_cons_zero, List.set_cons_succ]
          refine Rgn.skip 5 rfl (by kernel_rfl) (by kernel_rfl) (by kernel_rfl) (fun _ _ _ h => h) (by kernel_rfl) (by assumption) ?_
          try simp only [Act.put, List.setIfInBounds_toArray, List.set_cons_zero, List.set_cons_succ]
          refine Rgn.skip 6 rfl (by kernel_rfl) (by kernel_rfl) (by kernel_rfl) (fun _ _ _ h => h) (by kernel_rfl) (by assumption) ?_
          try simp only [Act.put, List.setIfInBounds_toArray, List.set_cons_zero, List.set_cons_succ]
          refine Rgn.skip 7 rfl (by kernel_rfl) (by kernel_rfl) (by kernel_rfl) (fun _ _ _ h => h) (by kernel_rfl) (by assumption) ?_
          try simp only [Act.put, List.setIfInBounds_toArray, List.set_cons_zero, List.set_cons_succ]
          refine Rgn.skip 8 rfl (by kernel_rfl) (by kernel_rfl) (by kernel_rfl) (fun _ _ _ h => h) (by kernel_rfl) (by assumption) ?_
          try simp only [Act.put, List.setIfInBounds_toArray, List.set_cons_zero, List.set_cons_succ]
          refine Rgn.skip 9 rfl (by kernel_rfl) (by kernel_rfl) (by kernel_rfl) (fun _ _ _ h => h) (by kernel_rfl) (by assumption) ?_
          try simp only [Act.put, List.setIfInBounds_toArray, List.set_cons_zero, List.set_cons_succ]
          refine Rgn.skip 10 rfl (by kernel_rfl) (by kernel_rfl) (by kernel_rfl) (fun _ _ _ h => h) (by kernel_rfl) (by assumption) ?_
          try simp only [Act.put, List.setIfInBounds_toArray, List.set_cons_zero, List.set_cons_succ]
          refine Rgn.skip 11 rfl (by kernel_rfl) (by kernel_rfl) (by kernel_rfl) (fun _ _ _ h => h) (by kernel_rfl) (by assumption) ?_
          try simp only [Act.put, List.setIfInBounds_toArray, List.set_cons_zero, List.set_cons_succ]
          refine Rgn.skip 12 rfl (by kernel_rfl) (by kernel_rfl) (by kernel_rfl) (fun _ _ _ h => h) (by kernel_rfl) (by assumption) ?_
          try simp only [Act.put, List.setIfInBounds_toArray, List.set_cons_zero, List.set_cons_succ]
          refine Rgn.skip 13 rfl (by kernel_rfl) (by kernel_rfl) (by kernel_rfl) (fun _ _ _ h => h) (by kernel_rfl) (by assumption) ?_
          try simp only [Act.put, List.setIfInBounds_toArray, List.set_cons_zero, List.set_cons_succ]
          refine Rgn.skip 14 rfl (by kernel_rfl) (by kernel_rfl) (by kernel_rfl) (fun _ _ _ h => h) (by kernel_rfl) (by assumption) ?_
          try simp only [Act.put, List.setIfInBounds_toArray, List.set_cons_zero, List.set_cons_succ]
          refine Rgn.skip 15 rfl (by kernel_rfl) (by kernel_rfl) (by kernel_rfl) (fun _ _ _ h => h) (by kernel_rfl) (by assumption) ?_
          try simp only [Act.put, List.setIfInBounds_toArray, List.set_cons_zero, List.set_cons_succ]
          refine Rgn.skip 16 rfl (by kernel_rfl) (by kernel_rfl) (by kernel_rfl) (fun _ _ _ h => h) (by kernel_rfl) (by assumption) ?_
          try simp only [Act.put, List.setIfInBounds_toArray, List.set_cons_zero, List.set_cons_succ]
          refine Rgn.take 17 (v := ?_) rfl (by kernel_rfl) (by kernel_rfl) (by kernel_rfl) (fun _ _ _ h => h) (by kernel_rfl) ?_ (by assumption) ?_
          rotate_left
          · intro w hSw
            (try dsimp only at hSw)
            go_simp
            try with_reducible rfl
          try simp only [Act.put, List.setIfInBounds_toArray, List.set_cons_zero, List.set_cons_succ]
          refine wpAnyH_done (by kernel_rfl) ?_ _
          have B1 := Lib.hid HB.out.drew
          go_wp2_with fail
          go_roundw
          case rel => exact ⟨j + 1 + 1, ⟨by omega, by omega⟩, by go_num, c0, c1, B1, HA2⟩
          case measure => simp [intOf]; omega
      · have hge : len ≤ k := by omega
        have HR := Lib.hid (Rd.wrong_miss (c := c) (v := v) (f := (g : Int)) (l := l) (fun _ j hj => HA.out j (by rw [HLL.out] at hj; omega)))
        go_wp2_with fail
        go_ret2
        exact ⟨by rw [HR.out]; rfl, HB.out⟩
end Go.Proofs.Ytpbkoooljelhjaa
