/-
  The walks of package port, fifth part: Take.
-/
import Derived.Test.YtpbkoooljelhjaaPort4
import Derived.Test.YtpbkoooljelhjaaWire1
namespace Go.Proofs.Ytpbkoooljelhjaa
set_option linter.unusedVariables false
set_option linter.unusedSimpArgs false
open Go.RowKit
theorem Kit.free_new {w w1 : World} {cs : Array Value} {e : TypeId} (h : Below (w.alloc (.cells cs e)).heap.size (w.alloc (.cells cs e)) w1) (i : Nat) : w1.frozen? ⟨w.heap.size, i, none⟩ = false :=
  (h.frozen (p := ⟨w.heap.size, i, none⟩) (by simp)).trans (by simp)
theorem Port.news (W : World) (N : Nat) (hN : W.heap.size = N) (x : Fr) : ∀ j u, [Value.int .i64 x.k, .int .i64 x.i][j]? = some u → (W.alloc (.cells #[.int .i64 x.k, .int .i64 x.i] 51)).cell? ((⟨N, 0, none⟩ : Addr).add j) = some u := by
  subst hN
  exact World.news_of_block (heap_alloc_new W _)
/-- What is taken in, and whether it went well. -/
def Port.takeV (n : Int) (l : List ByteArray) : List Fr × Int :=
  if 3 ≤ n ∧ n ≤ 8 then (if (l.length : Int) = n then (Port.take l l.length, 0) else ([], 2)) else ([], 1)

set_option maxHeartbeats 2000000 in
set_option maxRecDepth 100000 in
theorem Port.take1 (A : Option Addr) (n cap : Nat) (l : List ByteArray) (w : World) (hl : Strs w A n l) (hs : ∀ s ∈ l, s.size ≤ maxLen) (h3 : 3 ≤ n) (h8 : n ≤ 8) :
    Calls Try.prog 53 #[.int .i64 n, .slice A n cap] w (Port.Row w (Port.take l n) 0) := by
  obtain ⟨i0, hi, hz0, hz1, hz2⟩ := info_parts Port.info
  have hcf := fun w => Port.conf_calls (n : Int) w
  rw [show decide (3 ≤ (n : Int)) = true from by simp; omega, show decide ((n : Int) ≤ 8) = true from by simp; omega] at hcf
  obtain ⟨W0, hrun, hown0, hg0⟩ := run_make_own (P := Try.prog) w w.heap.size 60 51 i0 (.agg #[.int .i64 0, .int .i64 0]) 2 Try.underlying60 hi hz0 hz1 .i64 .i64 n (by rw [hz2]; omega) (by unfold maxLen; omega) (Nat.le_refl _)
  have B0 := Lib.hid ((Below.refl w.heap.size w).grown hg0 (Nat.le_refl _) (fun q hq => by cases hq))
  have HL := Lib.hid hl
  have HS := Lib.hid hs
  clear hl hs hg0
  go_enter Try.func53, Try.ntmps53
  go_wp2_with fail
  refine (hcf _).mono ?_
  rintro e w1 ⟨rfl, rfl⟩
  go_wp2_with fail
  clear hrun hcf
  go_loopw [6, 7, 8, 9, 23] (fun vo _ _ _ vi wr => ∃ k : Nat, k ≤ n ∧ vi = .int .i64 k ∧ wr.ownsRow w.heap.size 51 2 vo k (Port.cells (Port.take l k)) ∧ Hid (Below w.heap.size w wr)) (fun _ _ _ _ vi _ => n - (intOf vi).toNat)
  case atStart => exact ⟨0, by omega, rfl, hown0, B0⟩
  case round =>
    clear hown0 B0
    obtain ⟨k, hk, rfl, hown, HB⟩ := hrel
    by_cases hlt : k < n
    · obtain ⟨b, off, rfl, hb, hrow⟩ := HL.out.row (by omega)
      have hkl : k < l.length := by rw [HL.out.len]; exact hlt
      obtain ⟨s, hx⟩ : ∃ s, l[k]? = some s := ⟨_, List.getElem?_eq_getElem hkl⟩
      have m0 := (HB.out.cell (p := ⟨b, off + k, Option.none⟩) hb).trans (hrow k s hx)
      have hsz := HS.out s (List.mem_of_getElem? hx)
      unfold maxLen at hsz
      have cg := fun w => Wire.get_calls s w (by omega)
      have cr := fun w => Wire.right_calls (Wire.get s) w
      have ht := Port.take_succ l k s hx
      rw [Port.one_eq] at ht
      clear hrow hx hkl
      generalize Wire.get s = g at *
      obtain ⟨gk, gi⟩ := g
      simp only at cg cr
      cases hr : Fr.right ⟨gk, gi⟩ with
      | false =>
        rw [hr] at ht cr
        have HT : Hid (Port.take l (k + 1) = Port.take l k ++ [⟨0, 0⟩]) := Lib.hid (by rw [ht]; simp [Fr.none])
        clear ht hr
        go_wp2_with fail
        refine (cg _).mono ?_
        rintro e w1 ⟨rfl, b1⟩
        have B1 := Lib.hid b1
        clear b1
        go_wp2_with fail
        refine (cr _).mono ?_
        rintro e w2 ⟨rfl, b2⟩
        have q0 := Kit.cell_new b2 0 rfl
        have q1 := Kit.cell_new b2 1 rfl
        have z0 := Kit.free_new b2 0
        have z1 := Kit.free_new b2 1
        have B2 := Lib.hid (Kit.chain B1.out (Kit.chain ((Below.refl _ _).alloc (Nat.le_refl _) _) b2))
        have hsz : w1.heap.size < w2.heap.size := World.block_lt_of_cell? w2 ⟨w1.heap.size, 0, Option.none⟩ q0
        clear b2
        have hwb : Below wr.heap.size wr ((w2.setCell ⟨w1.heap.size, 0, Option.none⟩ (.int .i64 0)).setCell ⟨w1.heap.size, 1, Option.none⟩ (.int .i64 0)) := (B2.out.setCell B1.out.size _).setCell B1.out.size _
        have BW := Lib.hid hwb
        clear hwb
        have own2 := Kit.own_below hown BW.out
        have bwf := HB.out.trans (BW.out.mono HB.out.size)
        go_wp2_with (at_builtin; go_loud (refine wpList_append_own _ rfl _ _ 60 rfl w.heap.size 51 i0 (.agg #[.int .i64 0, .int .i64 0]) 2 16 Try.underlying60 hi hz0 hz1 hz2 rfl (by decide) _ _ _ rfl (own2.alloc _) ⟨w2.heap.size, 0, Option.none⟩ 1 1 [.int .i64 0, .int .i64 0] rfl rfl ?c1 ?c2 ?c3 ?c4 ?c5 ?_))
        case c1 => exact Port.news ((w2.setCell ⟨w1.heap.size, 0, Option.none⟩ (.int .i64 0)).setCell ⟨w1.heap.size, 1, Option.none⟩ (.int .i64 0)) w2.heap.size (by simp) ⟨0, 0⟩
        case c2 => intro u hu; simp at hu; rcases hu with rfl | rfl <;> rfl
        case c3 => unfold maxLen; omega
        case c4 => omega
        case c5 => have := bwf.size; simp at this ⊢; omega
        intro v' w3 hown' hgrow _
        have hb7 := Kit.own_base own2
        have b3 : Below w.heap.size w w3 := (bwf.alloc bwf.size _).grown hgrow (by have := bwf.size; simp at this ⊢; omega) (fun q hq => hb7 q hq)
        have B3 := Lib.hid b3
        have hown3 : w3.ownsRow w.heap.size 51 2 v' (k + 1) (Port.cells (Port.take l (k + 1))) := by rw [HT.out, Port.cells_snoc]; exact hown'
        clear b3 hgrow own2 bwf hb7 hown' BW
        go_wp2
        go_roundw
        case rel => exact ⟨k + 1, by omega, by go_num, hown3, B3⟩
        case measure => simp [intOf]; omega
      | true =>
        rw [hr] at ht cr
        by_cases hik : gi = (k : Int)
        · have HT : Hid (Port.take l (k + 1) = Port.take l k ++ [⟨gk, gi⟩]) := Lib.hid (by rw [ht]; simp [hik])
          have e1 : (gi != (k : Int)) = false := by rw [bne_eq_false_iff_eq]; exact hik
          clear ht hr hik
          go_wp2_with fail
          refine (cg _).mono ?_
          rintro e w1 ⟨rfl, b1⟩
          have B1 := Lib.hid b1
          clear b1
          go_wp2_with fail
          refine (cr _).mono ?_
          rintro e w2 ⟨rfl, b2⟩
          have q0 := Kit.cell_new b2 0 rfl
          have q1 := Kit.cell_new b2 1 rfl
          have z0 := Kit.free_new b2 0
          have z1 := Kit.free_new b2 1
          have B2 := Lib.hid (Kit.chain B1.out (Kit.chain ((Below.refl _ _).alloc (Nat.le_refl _) _) b2))
          have hsz : w1.heap.size < w2.heap.size := World.block_lt_of_cell? w2 ⟨w1.heap.size, 0, Option.none⟩ q0
          clear b2
          have BW := B2
          have own2 := Kit.own_below hown BW.out
          have bwf := HB.out.trans (BW.out.mono HB.out.size)
          go_wp2_with (at_builtin; go_loud (refine wpList_append_own _ rfl _ _ 60 rfl w.heap.size 51 i0 (.agg #[.int .i64 0, .int .i64 0]) 2 16 Try.underlying60 hi hz0 hz1 hz2 rfl (by decide) _ _ _ rfl (own2.alloc _) ⟨w2.heap.size, 0, Option.none⟩ 1 1 [.int .i64 gk, .int .i64 gi] rfl rfl ?c1 ?c2 ?c3 ?c4 ?c5 ?_))
          case c1 => exact Port.news w2 w2.heap.size (by simp) ⟨gk, gi⟩
          case c2 => intro u hu; simp at hu; rcases hu with rfl | rfl <;> rfl
          case c3 => unfold maxLen; omega
          case c4 => omega
          case c5 => have := bwf.size; simp at this ⊢; omega
          intro v' w3 hown' hgrow _
          have hb7 := Kit.own_base own2
          have b3 : Below w.heap.size w w3 := (bwf.alloc bwf.size _).grown hgrow (by have := bwf.size; simp at this ⊢; omega) (fun q hq => hb7 q hq)
          have B3 := Lib.hid b3
          have hown3 : w3.ownsRow w.heap.size 51 2 v' (k + 1) (Port.cells (Port.take l (k + 1))) := by rw [HT.out, Port.cells_snoc]; exact hown'
          clear b3 hgrow own2 bwf hb7 hown' BW
          go_wp2
          go_roundw
          case rel => exact ⟨k + 1, by omega, by go_num, hown3, B3⟩
          case measure => simp [intOf]; omega
        · have HT : Hid (Port.take l (k + 1) = Port.take l k ++ [⟨0, 0⟩]) := Lib.hid (by rw [ht]; simp [Fr.none, hik])
          have e1 : (gi != (k : Int)) = true := by rw [bne_iff_ne]; exact hik
          clear ht hr hik
          go_wp2_with fail
          refine (cg _).mono ?_
          rintro e w1 ⟨rfl, b1⟩
          have B1 := Lib.hid b1
          clear b1
          go_wp2_with fail
          refine (cr _).mono ?_
          rintro e w2 ⟨rfl, b2⟩
          have q0 := Kit.cell_new b2 0 rfl
          have q1 := Kit.cell_new b2 1 rfl
          have z0 := Kit.free_new b2 0
          have z1 := Kit.free_new b2 1
          have B2 := Lib.hid (Kit.chain B1.out (Kit.chain ((Below.refl _ _).alloc (Nat.le_refl _) _) b2))
          have hsz : w1.heap.size < w2.heap.size := World.block_lt_of_cell? w2 ⟨w1.heap.size, 0, Option.none⟩ q0
          clear b2
          have hwb : Below wr.heap.size wr ((w2.setCell ⟨w1.heap.size, 0, Option.none⟩ (.int .i64 0)).setCell ⟨w1.heap.size, 1, Option.none⟩ (.int .i64 0)) := (B2.out.setCell B1.out.size _).setCell B1.out.size _
          have BW := Lib.hid hwb
          clear hwb
          have own2 := Kit.own_below hown BW.out
          have bwf := HB.out.trans (BW.out.mono HB.out.size)
          go_wp2_with (at_builtin; go_loud (refine wpList_append_own _ rfl _ _ 60 rfl w.heap.size 51 i0 (.agg #[.int .i64 0, .int .i64 0]) 2 16 Try.underlying60 hi hz0 hz1 hz2 rfl (by decide) _ _ _ rfl (own2.alloc _) ⟨w2.heap.size, 0, Option.none⟩ 1 1 [.int .i64 0, .int .i64 0] rfl rfl ?c1 ?c2 ?c3 ?c4 ?c5 ?_))
          case c1 => exact Port.news ((w2.setCell ⟨w1.heap.size, 0, Option.none⟩ (.int .i64 0)).setCell ⟨w1.heap.size, 1, Option.none⟩ (.int .i64 0)) w2.heap.size (by simp) ⟨0, 0⟩
          case c2 => intro u hu; simp at hu; rcases hu with rfl | rfl <;> rfl
          case c3 => unfold maxLen; omega
          case c4 => omega
          case c5 => have := bwf.size; simp at this ⊢; omega
          intro v' w3 hown' hgrow _
          have hb7 := Kit.own_base own2
          have b3 : Below w.heap.size w w3 := (bwf.alloc bwf.size _).grown hgrow (by have := bwf.size; simp at this ⊢; omega) (fun q hq => hb7 q hq)
          have B3 := Lib.hid b3
          have hown3 : w3.ownsRow w.heap.size 51 2 v' (k + 1) (Port.cells (Port.take l (k + 1))) := by rw [HT.out, Port.cells_snoc]; exact hown'
          clear b3 hgrow own2 bwf hb7 hown' BW
          go_wp2
          go_roundw
          case rel => exact ⟨k + 1, by omega, by go_num, hown3, B3⟩
          case measure => simp [intOf]; omega
    · obtain rfl : k = n := by omega
      go_wp2_with fail
      go_ret2
      exact ⟨_, rfl, by rw [Port.take_len]; exact hown, HB.out⟩

set_option maxHeartbeats 1000000 in
set_option maxRecDepth 100000 in
/-- port.Take. -/
theorem Port.take_calls (x : Int) (A : Option Addr) (n cap : Nat) (l : List ByteArray) (w : World) (hl : Strs w A n l) (hs : ∀ s ∈ l, s.size ≤ maxLen) (hn : n ≤ 9223372036854775807) :
    Calls Try.prog 53 #[.int .i64 x, .slice A n cap] w (Port.Row w (Port.takeV x l).1 (Port.takeV x l).2) := by
  unfold Port.takeV
  have hll := hl.len
  by_cases hx : 3 ≤ x ∧ x ≤ 8
  · rw [if_pos hx]
    by_cases hnx : (l.length : Int) = x
    · rw [if_pos hnx, hll]
      have : x = (n : Int) := by rw [← hnx, hll]
      subst this
      exact Port.take1 A n cap l w hl hs (by omega) (by omega)
    · rw [if_neg hnx]
      have h1 : ((n : Int) != x) = true := by rw [bne_iff_ne]; omega
      have hcf := fun w => Port.conf_calls x w
      rw [show decide (3 ≤ x) = true from by simp; omega, show decide (x ≤ 8) = true from by simp; omega] at hcf
      clear hnx hx hll
      go_enter Try.func53, Try.ntmps53
      go_wp2_with fail
      refine (hcf _).mono ?_
      rintro e w1 ⟨rfl, rfl⟩
      go_wp2_with fail
      go_ret2
      exact ⟨_, rfl, World.ownsRow_nil _ _ _ _, Below.refl _ _⟩
  · rw [if_neg hx]
    have hcf := fun w => Port.conf_calls x w
    rw [show (decide (3 ≤ x) && decide (x ≤ 8)) = false from by simp; omega] at hcf
    clear hx hll
    go_enter Try.func53, Try.ntmps53
    go_wp2_with fail
    refine (hcf _).mono ?_
    rintro e w1 ⟨rfl, rfl⟩
    go_wp2_with fail
    go_ret2
    exact ⟨_, rfl, World.ownsRow_nil _ _ _ _, Below.refl _ _⟩
end Go.Proofs.Ytpbkoooljelhjaa
