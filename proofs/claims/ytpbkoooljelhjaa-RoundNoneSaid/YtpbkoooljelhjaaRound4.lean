/-
  The walks of package round, fourth part: gap, Heard.
-/
import Derived.Test.YtpbkoooljelhjaaRound3
namespace Go.Proofs.Ytpbkoooljelhjaa
set_option linter.unusedVariables false
set_option linter.unusedSimpArgs false
open Go.RowKit

/-- What gap answers. -/
def Rd.GapSays (n : Nat) (c v : Int) (id : Int) (l : List Lk) (w : World) (e : Ending) (w' : World) : Prop := ∃ b : Bool, e = .returned (.bool b) ∧ (b = true ↔ Rd.Gap n c v id l) ∧ Below w.heap.size w w'
/-- How many looks on end are quiet, and that no window of n is. -/
structure Rd.Run (n : Nat) (c v id : Int) (l : List Lk) (k q : Nat) : Prop where
  quiet : ∀ m, k - q ≤ m → m < k → Rd.saysAt c v id l m = false
  heard : q < k → Rd.saysAt c v id l (k - q - 1) = true
  none_ : ∀ i, i + n ≤ k → ¬ Rd.Quiet n c v id l i
theorem Rd.Run.hit {n : Nat} {c v id : Int} {l : List Lk} {k q : Nat} (h : Rd.Run n c v id l k q) (hn : 1 ≤ n) (hs : Rd.saysAt c v id l k = true) : Rd.Run n c v id l (k + 1) 0 :=
  ⟨fun m h1 h2 => absurd h2 (by omega), fun _ => by simpa using hs, fun i hi hq => by
    by_cases e : i + n = k + 1
    · have := hq k (by omega) (by omega); rw [hs] at this; cases this
    · exact h.none_ i (by omega) hq⟩
theorem Rd.Run.more {n : Nat} {c v id : Int} {l : List Lk} {k q : Nat} (h : Rd.Run n c v id l k q) (hq : q ≤ k) (hn : q + 1 < n) (hs : Rd.saysAt c v id l k = false) : Rd.Run n c v id l (k + 1) (q + 1) :=
  ⟨fun m h1 h2 => by
    by_cases e : m = k
    · rw [e]; exact hs
    · exact h.quiet m (by omega) (by omega), fun h1 => by rw [show k + 1 - (q + 1) - 1 = k - q - 1 by omega]; exact h.heard (by omega), fun i hi hw => by
    by_cases e : i + n = k + 1
    · have h1 := h.heard (by omega)
      have h2 := hw (k - q - 1) (by omega) (by omega)
      rw [h1] at h2; cases h2
    · exact h.none_ i (by omega) hw⟩
theorem Rd.Run.gap {n : Nat} {c v id : Int} {l : List Lk} {k q : Nat} (h : Rd.Run n c v id l k q) (hq : q ≤ k) (hn : n = q + 1) (hk : k < l.length) (hs : Rd.saysAt c v id l k = false) : Rd.Gap n c v id l :=
  ⟨k - q, by omega, fun m h1 h2 => by
    by_cases e : m = k
    · rw [e]; exact hs
    · exact h.quiet m (by omega) (by omega)⟩

set_option maxHeartbeats 1000000 in
set_option maxRecDepth 100000 in
/-- round.gap. -/
theorem Rd.gap_calls (n : Nat) (c v id : Int) (A : Option Addr) (len cap : Nat) (l : List Lk) (w : World) (hl : Looks w A len l) (hlen : len ≤ 1000000) (hn : 1 ≤ n) (hn8 : n ≤ 8) :
    Calls Try.prog 113 #[.int .i64 (n : Int), .agg #[.int .i64 c, .int .i64 v], .slice A len cap, .int .i64 id] w (Rd.GapSays n c v id l w) := by
  have HL := Lib.hid hl
  have hll := hl.len
  have HLL := Lib.hid hll
  clear hl hll
  go_enter Try.func113, Try.ntmps113
  go_wp2_with fail
  go_loopw [9, 11, 14] (fun vq _ vi wr => ∃ k q : Nat, (k ≤ len ∧ q ≤ k ∧ q < n) ∧ vi = .int .i64 k ∧ vq = .int .i64 q ∧ wr.cell? ⟨w.heap.size, 0, none⟩ = some (.int .i64 c) ∧ wr.cell? ⟨w.heap.size, 1, none⟩ = some (.int .i64 v) ∧ Hid (Below w.heap.size w wr) ∧ Hid (Rd.Run n c v id l k q)) (fun _ _ vi _ => len - (intOf vi).toNat)
  case atStart => exact ⟨0, 0, ⟨by omega, by omega, by omega⟩, rfl, rfl, by go_simp, by go_simp, Lib.hid (Kit.alloc1 ..), Lib.hid ⟨fun m h1 h2 => absurd h2 (by omega), fun h => absurd h (by omega), fun i hi => absurd hi (by omega)⟩⟩
  case round =>
    obtain ⟨k, q, ⟨hk, hqk, hqn⟩, rfl, rfl, c0, c1, HB, HR⟩ := hrel
    have hws := World.block_lt_of_cell? wr ⟨w.heap.size, 0, none⟩ c0
    by_cases hlt : k < len
    · obtain ⟨b, off, rfl, hb, hrow⟩ := HL.out.row (by omega)
      have hkl : k < l.length := by rw [HLL.out]; exact hlt
      obtain ⟨x, hx⟩ : ∃ x, l[k]? = some x := ⟨_, List.getElem?_eq_getElem hkl⟩
      obtain ⟨m0, m1, m2, m3, m4, m5⟩ := hrow k x hx
      replace m0 := (HB.out.cell (p := ⟨b, _, none⟩) hb).trans m0
      replace m1 := (HB.out.cell (p := ⟨b, _, none⟩) hb).trans m1
      replace m2 := (HB.out.cell (p := ⟨b, _, none⟩) hb).trans m2
      replace m3 := (HB.out.cell (p := ⟨b, _, none⟩) hb).trans m3
      replace m4 := (HB.out.cell (p := ⟨b, _, none⟩) hb).trans m4
      replace m5 := (HB.out.cell (p := ⟨b, _, none⟩) hb).trans m5
      have hsy : Rd.saysAt c v id l k = (Rd.relayed c v x.r0 x.r1).any (fun z => 2 == z.k && id == z.i) := by unfold Rd.saysAt; rw [Sy.getD_of hx]; rfl
      have hrl : (Rd.relayed c v x.r0 x.r1).length ≤ 1000000 := by unfold Rd.relayed Rd.pick; simp; split <;> split <;> simp
      have KR := Lib.hid (fun W => Rd.relayed_calls c v x.tick x.r0 x.r1 (.slice x.at_ x.n x.cap) W)
      have HSY := Lib.hid hsy
      have HRL := Lib.hid hrl
      clear hrow hx hsy hrl
      obtain ⟨xt, ⟨x0k, x0i⟩, ⟨x1k, x1i⟩, xA, xn, xc, xs⟩ := x
      simp only at m0 m1 m2 m3 m4 m5 KR HSY HRL
      generalize Rd.relayed c v ⟨x0k, x0i⟩ ⟨x1k, x1i⟩ = rl at *
      have ix0 : (0 : Int) ≤ (k : Int) := by omega
      have ix1 : (k : Int) < (len : Int) := by omega
      go_wp2_with fail
      refine (KR.out _).mono ?_
      rintro e w1 ⟨A1, cap1, rfl, hfr, b1⟩
      replace b1 := Kit.chain (Kit.alloc1 ..) b1
      replace c0 := Kit.cell_below b1 c0
      replace c1 := Kit.cell_below b1 c1
      have B1 := Lib.hid (Kit.chain HB.out b1)
      have kc := Hear.contains_calls A1 rl.length cap1 rl ⟨2, id⟩ w1 hfr HRL.out
      clear b1 hfr m0 m1 m2 m3 m4 m5
      simp only at kc
      rw [← HSY.out] at kc
      go_wp2_with fail
      refine kc.mono ?_
      clear kc
      rintro e w2 ⟨rfl, b2⟩
      replace c0 := Kit.cell_below b2 c0
      replace c1 := Kit.cell_below b2 c1
      have B2 := Lib.hid (Kit.chain B1.out b2)
      clear b2
      cases hs : Rd.saysAt c v id l k with
      | true =>
        have HR2 := Lib.hid (HR.out.hit hn hs)
        have gq : decide ((n : Int) ≤ 0) = false := by simp; omega
        clear hs
        go_wp2_with fail
        go_roundw
        case rel => exact ⟨k + 1, 0, ⟨by omega, by omega, by omega⟩, by go_num, rfl, c0, c1, B2, HR2⟩
        case measure => simp [intOf]; omega
      | false =>
        by_cases hq1 : q + 1 < n
        · have HR2 := Lib.hid (HR.out.more hqk hq1 hs)
          have gq : decide ((n : Int) ≤ (q : Int) + 1) = false := by simp; omega
          clear hs
          go_wp2_with fail
          go_roundw
          case rel => exact ⟨k + 1, q + 1, ⟨by omega, by omega, by omega⟩, by go_num, by go_num, c0, c1, B2, HR2⟩
          case measure => simp [intOf]; omega
        · have HG := Lib.hid (HR.out.gap hqk (by omega) hkl hs)
          have gq : decide ((n : Int) ≤ (q : Int) + 1) = true := by simp; omega
          clear hs
          go_wp2_with fail
          go_ret
          exact ⟨true, rfl, ⟨fun _ => HG.out, fun _ => rfl⟩, B2.out⟩
    · obtain rfl : k = len := by omega
      go_wp2_with fail
      go_ret
      refine ⟨false, rfl, ⟨fun h => absurd h (by simp), fun ⟨i, hi, hq⟩ => absurd hq (HR.out.none_ i (by rw [HLL.out] at hi; exact hi))⟩, HB.out⟩

end Go.Proofs.Ytpbkoooljelhjaa
