/-
  The walk of round.Heard.
-/
import Derived.Test.YtpbkoooljelhjaaRound4
namespace Go.Proofs.Ytpbkoooljelhjaa
set_option linter.unusedVariables false
set_option linter.unusedSimpArgs false
open Go.RowKit

/-- What the answer on who isn't heard says. -/
def Rd.HeardSays (n c v f : Int) (l : List Lk) (w : World) (e : Ending) (w' : World) : Prop := ∃ o, Rd.IsHeard n c v f l o ∧ e = .returned (Sy.firstV o) ∧ Below w.heap.size w w'

set_option maxHeartbeats 1500000 in
set_option maxRecDepth 100000 in
/-- round.Heard. -/
theorem Rd.heard_calls (n c v f : Int) (A : Option Addr) (len cap : Nat) (l : List Lk) (w : World) (hl : Looks w A len l) (hlen : len ≤ 1000000) (hcap : len ≤ cap) (hnil : A = none → cap = 0) (hf1 : -9223372036854775808 ≤ f) (hf2 : f ≤ 9223372036854775807) :
    Calls Try.prog 84 #[.int .i64 n, .agg #[.int .i64 c, .int .i64 v], .slice A len cap, .int .i64 f] w (Rd.HeardSays n c v f l w) := by
  have HL := Lib.hid hl
  have hll := hl.len
  have HLL := Lib.hid hll
  clear hl hll
  by_cases hbad : f < 0 ∨ n < 1 ∨ 8 < n
  · have HI : Hid (Rd.IsHeard n c v f l none) := Lib.hid ⟨fun _ => rfl, fun id h => absurd hbad h⟩
    by_cases h1 : f < 0
    · have g1 : decide (f < 0) = true := decide_eq_true h1
      clear hbad
      go_enter Try.func84, Try.ntmps84
      go_wp2_with fail
      go_ret2
      exact ⟨none, HI.out, rfl, Kit.alloc1 ..⟩
    · have g1 : decide (f < 0) = false := decide_eq_false h1
      by_cases h2 : n < 1
      · have g2 : decide (n < 1) = true := decide_eq_true h2
        clear hbad
        go_enter Try.func84, Try.ntmps84
        go_wp2_with fail
        go_ret2
        exact ⟨none, HI.out, rfl, Kit.alloc1 ..⟩
      · have g2 : decide (n < 1) = false := decide_eq_false h2
        have g3 : decide (8 < n) = true := decide_eq_true (by omega)
        clear hbad
        go_enter Try.func84, Try.ntmps84
        go_wp2_with fail
        go_ret2
        exact ⟨none, HI.out, rfl, Kit.alloc1 ..⟩
  · obtain ⟨g, rfl⟩ := Int.eq_ofNat_of_zero_le (show 0 ≤ f by omega)
    obtain ⟨m, rfl⟩ := Int.eq_ofNat_of_zero_le (show 0 ≤ n by omega)
    have hm1 : 1 ≤ m := by omega
    have hm8 : m ≤ 8 := by omega
    have g1 : decide ((g : Int) < 0) = false := by simp
    have g2 : decide ((m : Int) < 1) = false := by simp; omega
    have g3 : decide ((8 : Int) < (m : Int)) = false := by simp; omega
    obtain ⟨a, ha, hal⟩ : ∃ a : Nat, (a : Int) = min (g : Int) ((len : Int) - 1) + 1 ∧ a ≤ len := ⟨(min (g : Int) ((len : Int) - 1) + 1).toNat, by omega, by omega⟩
    have HU : Hid (∀ id : Nat, Rd.Unheard m c v g l id ↔ (Vw.fnode c v id = false ∧ Rd.Gap m c v id (l.drop a))) := Lib.hid fun id => Rd.unheard_iff (by omega) hm1 (by rw [HLL.out]; exact ha)
    have HBAD : Hid (¬ ((g : Int) < 0 ∨ (m : Int) < 1 ∨ 8 < (m : Int))) := Lib.hid hbad
    have hmin : min (g : Int) ((len : Int) - 1) = (a : Int) - 1 := by omega
    have HMIN := Lib.hid hmin
    clear hbad hmin ha
    by_cases hz : len = 0
    · obtain rfl : a = 0 := by have h1 := HMIN.out; omega
      subst hz
      have hl0 := List.eq_nil_of_length_eq_zero HLL.out
      have HD : Hid (∀ (B : Option Addr) (n : Nat), n = 0 → Looks w B n (l.drop 0)) := Lib.hid fun B n hn => ⟨⟨by rw [hl0, hn]; rfl, fun h => absurd h (by omega)⟩, fun z hz => by rw [hl0] at hz; simp at hz⟩
      clear hl0
      have hgl1 : ((0 : Nat) : Int) - 1 ≤ (g : Int) := by omega
      cases A with
      | none =>
        have hc0 := hnil rfl
        subst hc0
        go_enter Try.func84, Try.ntmps84
        have hmin := HMIN.out
        go_wp2_with fail
        clear hmin
        go_loopw [10, 30] (fun _ vi wr => ∃ k : Nat, k ≤ m ∧ vi = .int .i64 k ∧ wr.cell? ⟨w.heap.size, 0, none⟩ = some (.int .i64 c) ∧ wr.cell? ⟨w.heap.size, 1, none⟩ = some (.int .i64 v) ∧ Hid (Below w.heap.size w wr) ∧ Hid (∀ (j : Nat), j < k → ¬ Rd.Unheard m c v g l j)) (fun _ vi _ => m - (intOf vi).toNat)
        case atStart => exact ⟨0, by omega, rfl, by go_simp, by go_simp, Lib.hid (Kit.alloc1 ..), Lib.hid (fun j h => absurd h (by omega))⟩
        case round =>
          obtain ⟨k, hk, rfl, c0, c1, HB, HA⟩ := hrel
          have hws := World.block_lt_of_cell? wr ⟨w.heap.size, 0, none⟩ c0
          by_cases hlt : k < m
          · have cf : ∀ W, Calls Try.prog 112 #[.agg #[.int .i64 c, .int .i64 v], .int .i64 (k : Int)] W fun e w' => e = .returned (.bool (Vw.fnode c v k)) ∧ Below W.heap.size W w' := fun W => Vw.fnode_calls c v k W
            have hu := HU.out k
            have HUK := Lib.hid hu
            clear hu
            cases hq : Vw.fnode c v k with
            | true =>
              have HA2 : Hid (∀ (j : Nat), j < k + 1 → ¬ Rd.Unheard m c v g l j) := Lib.hid (fun j hj => by
                by_cases e : j = k
                · rw [e, HUK.out, hq]; simp
                · exact HA.out j (by omega))
              rw [hq] at cf
              clear hq
              go_wp2_with fail
              refine (cf _).mono ?_
              rintro e w1 ⟨rfl, b1⟩
              replace c0 := Kit.cell_below b1 c0
              replace c1 := Kit.cell_below b1 c1
              have B1 := Lib.hid (Kit.chain HB.out b1)
              clear b1
              go_wp2_with fail
              go_roundw
              case rel => exact ⟨k + 1, by omega, by go_num, c0, c1, B1, HA2⟩
              case measure => simp [intOf]; omega
            | false =>
              rw [hq] at cf
              go_wp2_with fail
              refine (cf _).mono ?_
              rintro e w1 ⟨rfl, b1⟩
              replace c0 := Kit.cell_below b1 c0
              replace c1 := Kit.cell_below b1 c1
              have B1 := Lib.hid (Kit.chain HB.out b1)
              clear b1
              have HQ := Lib.hid hq
              clear hq
              go_wp2_with fail
              refine (Rd.gap_calls m c v k _ _ _ (l.drop 0) _ ((HD.out _ _ (by first | rfl | omega | simp)).below B1.out) (by omega) hm1 hm8).mono ?_
              rintro e w2 ⟨bb, rfl, hbb, b2⟩
              have HBB := Lib.hid hbb
              replace c0 := Kit.cell_below b2 c0
              replace c1 := Kit.cell_below b2 c1
              have B2 := Lib.hid (Kit.chain B1.out b2)
              clear b2 hbb
              cases bb with
              | true =>
                have HI : Hid (Rd.IsHeard (m : Int) c v g l (some k)) := Lib.hid ⟨fun h => absurd h HBAD.out, fun id _ => by
                  have hun : Rd.Unheard m c v g l k := HUK.out.2 ⟨HQ.out, HBB.out.1 rfl⟩
                  rw [Int.toNat_natCast]
                  constructor
                  · intro h; injection h with h; subst h; exact ⟨hlt, hun, HA.out⟩
                  · rintro ⟨h1, h2, h3⟩
                    rcases Nat.lt_trichotomy k id with h | h | h
                    · exact absurd hun (h3 k h)
                    · rw [h]
                    · exact absurd h2 (HA.out id h)⟩
                go_wp2_with fail
                go_ret2
                exact ⟨some k, HI.out, rfl, B2.out⟩
              | false =>
                have HA2 : Hid (∀ (j : Nat), j < k + 1 → ¬ Rd.Unheard m c v g l j) := Lib.hid (fun j hj => by
                  by_cases e : j = k
                  · rw [e, HUK.out]; exact fun h => by have := HBB.out.2 h.2; cases this
                  · exact HA.out j (by omega))
                go_wp2_with fail
                go_roundw
                case rel => exact ⟨k + 1, by omega, by go_num, c0, c1, B2, HA2⟩
                case measure => simp [intOf]; omega
          · obtain rfl : k = m := by omega
            have HI : Hid (Rd.IsHeard (k : Int) c v g l none) := Lib.hid ⟨fun _ => rfl, fun id _ => by
              rw [Int.toNat_natCast]
              constructor
              · intro h; cases h
              · rintro ⟨h1, h2, _⟩; exact absurd h2 (HA.out id h1)⟩
            go_wp2_with fail
            go_ret2
            exact ⟨none, HI.out, rfl, HB.out⟩
      | some ad =>
        by_cases hc0 : cap = 0
        · subst hc0
          go_enter Try.func84, Try.ntmps84
          have hmin := HMIN.out
          go_wp2_with fail
          clear hmin
          go_loopw [10, 30] (fun _ vi wr => ∃ k : Nat, k ≤ m ∧ vi = .int .i64 k ∧ wr.cell? ⟨w.heap.size, 0, none⟩ = some (.int .i64 c) ∧ wr.cell? ⟨w.heap.size, 1, none⟩ = some (.int .i64 v) ∧ Hid (Below w.heap.size w wr) ∧ Hid (∀ (j : Nat), j < k → ¬ Rd.Unheard m c v g l j)) (fun _ vi _ => m - (intOf vi).toNat)
          case atStart => exact ⟨0, by omega, rfl, by go_simp, by go_simp, Lib.hid (Kit.alloc1 ..), Lib.hid (fun j h => absurd h (by omega))⟩
          case round =>
            obtain ⟨k, hk, rfl, c0, c1, HB, HA⟩ := hrel
            have hws := World.block_lt_of_cell? wr ⟨w.heap.size, 0, none⟩ c0
            by_cases hlt : k < m
            · have cf : ∀ W, Calls Try.prog 112 #[.agg #[.int .i64 c, .int .i64 v], .int .i64 (k : Int)] W fun e w' => e = .returned (.bool (Vw.fnode c v k)) ∧ Below W.heap.size W w' := fun W => Vw.fnode_calls c v k W
              have hu := HU.out k
              have HUK := Lib.hid hu
              clear hu
              cases hq : Vw.fnode c v k with
              | true =>
                have HA2 : Hid (∀ (j : Nat), j < k + 1 → ¬ Rd.Unheard m c v g l j) := Lib.hid (fun j hj => by
                  by_cases e : j = k
                  · rw [e, HUK.out, hq]; simp
                  · exact HA.out j (by omega))
                rw [hq] at cf
                clear hq
                go_wp2_with fail
                refine (cf _).mono ?_
                rintro e w1 ⟨rfl, b1⟩
                replace c0 := Kit.cell_below b1 c0
                replace c1 := Kit.cell_below b1 c1
                have B1 := Lib.hid (Kit.chain HB.out b1)
                clear b1
                go_wp2_with fail
                go_roundw
                case rel => exact ⟨k + 1, by omega, by go_num, c0, c1, B1, HA2⟩
                case measure => simp [intOf]; omega
              | false =>
                rw [hq] at cf
                go_wp2_with fail
                refine (cf _).mono ?_
                rintro e w1 ⟨rfl, b1⟩
                replace c0 := Kit.cell_below b1 c0
                replace c1 := Kit.cell_below b1 c1
                have B1 := Lib.hid (Kit.chain HB.out b1)
                clear b1
                have HQ := Lib.hid hq
                clear hq
                go_wp2_with fail
                refine (Rd.gap_calls m c v k _ _ _ (l.drop 0) _ ((HD.out _ _ (by first | rfl | omega | simp)).below B1.out) (by omega) hm1 hm8).mono ?_
                rintro e w2 ⟨bb, rfl, hbb, b2⟩
                have HBB := Lib.hid hbb
                replace c0 := Kit.cell_below b2 c0
                replace c1 := Kit.cell_below b2 c1
                have B2 := Lib.hid (Kit.chain B1.out b2)
                clear b2 hbb
                cases bb with
                | true =>
                  have HI : Hid (Rd.IsHeard (m : Int) c v g l (some k)) := Lib.hid ⟨fun h => absurd h HBAD.out, fun id _ => by
                    have hun : Rd.Unheard m c v g l k := HUK.out.2 ⟨HQ.out, HBB.out.1 rfl⟩
                    rw [Int.toNat_natCast]
                    constructor
                    · intro h; injection h with h; subst h; exact ⟨hlt, hun, HA.out⟩
                    · rintro ⟨h1, h2, h3⟩
                      rcases Nat.lt_trichotomy k id with h | h | h
                      · exact absurd hun (h3 k h)
                      · rw [h]
                      · exact absurd h2 (HA.out id h)⟩
                  go_wp2_with fail
                  go_ret2
                  exact ⟨some k, HI.out, rfl, B2.out⟩
                | false =>
                  have HA2 : Hid (∀ (j : Nat), j < k + 1 → ¬ Rd.Unheard m c v g l j) := Lib.hid (fun j hj => by
                    by_cases e : j = k
                    · rw [e, HUK.out]; exact fun h => by have := HBB.out.2 h.2; cases this
                    · exact HA.out j (by omega))
                  go_wp2_with fail
                  go_roundw
                  case rel => exact ⟨k + 1, by omega, by go_num, c0, c1, B2, HA2⟩
                  case measure => simp [intOf]; omega
            · obtain rfl : k = m := by omega
              have HI : Hid (Rd.IsHeard (k : Int) c v g l none) := Lib.hid ⟨fun _ => rfl, fun id _ => by
                rw [Int.toNat_natCast]
                constructor
                · intro h; cases h
                · rintro ⟨h1, h2, _⟩; exact absurd h2 (HA.out id h1)⟩
              go_wp2_with fail
              go_ret2
              exact ⟨none, HI.out, rfl, HB.out⟩
        · have q0 : (0 : Int) ≤ (cap : Int) := by omega
          go_enter Try.func84, Try.ntmps84
          have hmin := HMIN.out
          go_wp2_with fail
          clear hmin
          go_loopw [10, 30] (fun _ vi wr => ∃ k : Nat, k ≤ m ∧ vi = .int .i64 k ∧ wr.cell? ⟨w.heap.size, 0, none⟩ = some (.int .i64 c) ∧ wr.cell? ⟨w.heap.size, 1, none⟩ = some (.int .i64 v) ∧ Hid (Below w.heap.size w wr) ∧ Hid (∀ (j : Nat), j < k → ¬ Rd.Unheard m c v g l j)) (fun _ vi _ => m - (intOf vi).toNat)
          case atStart => exact ⟨0, by omega, rfl, by go_simp, by go_simp, Lib.hid (Kit.alloc1 ..), Lib.hid (fun j h => absurd h (by omega))⟩
          case round =>
            obtain ⟨k, hk, rfl, c0, c1, HB, HA⟩ := hrel
            have hws := World.block_lt_of_cell? wr ⟨w.heap.size, 0, none⟩ c0
            by_cases hlt : k < m
            · have cf : ∀ W, Calls Try.prog 112 #[.agg #[.int .i64 c, .int .i64 v], .int .i64 (k : Int)] W fun e w' => e = .returned (.bool (Vw.fnode c v k)) ∧ Below W.heap.size W w' := fun W => Vw.fnode_calls c v k W
              have hu := HU.out k
              have HUK := Lib.hid hu
              clear hu
              cases hq : Vw.fnode c v k with
              | true =>
                have HA2 : Hid (∀ (j : Nat), j < k + 1 → ¬ Rd.Unheard m c v g l j) := Lib.hid (fun j hj => by
                  by_cases e : j = k
                  · rw [e, HUK.out, hq]; simp
                  · exact HA.out j (by omega))
                rw [hq] at cf
                clear hq
                go_wp2_with fail
                refine (cf _).mono ?_
                rintro e w1 ⟨rfl, b1⟩
                replace c0 := Kit.cell_below b1 c0
                replace c1 := Kit.cell_below b1 c1
                have B1 := Lib.hid (Kit.chain HB.out b1)
                clear b1
                go_wp2_with fail
                go_roundw
                case rel => exact ⟨k + 1, by omega, by go_num, c0, c1, B1, HA2⟩
                case measure => simp [intOf]; omega
              | false =>
                rw [hq] at cf
                go_wp2_with fail
                refine (cf _).mono ?_
                rintro e w1 ⟨rfl, b1⟩
                replace c0 := Kit.cell_below b1 c0
                replace c1 := Kit.cell_below b1 c1
                have B1 := Lib.hid (Kit.chain HB.out b1)
                clear b1
                have HQ := Lib.hid hq
                clear hq
                go_wp2_with fail
                refine (Rd.gap_calls m c v k _ _ _ (l.drop 0) _ ((HD.out _ _ (by first | rfl | omega | simp)).below B1.out) (by omega) hm1 hm8).mono ?_
                rintro e w2 ⟨bb, rfl, hbb, b2⟩
                have HBB := Lib.hid hbb
                replace c0 := Kit.cell_below b2 c0
                replace c1 := Kit.cell_below b2 c1
                have B2 := Lib.hid (Kit.chain B1.out b2)
                clear b2 hbb
                cases bb with
                | true =>
                  have HI : Hid (Rd.IsHeard (m : Int) c v g l (some k)) := Lib.hid ⟨fun h => absurd h HBAD.out, fun id _ => by
                    have hun : Rd.Unheard m c v g l k := HUK.out.2 ⟨HQ.out, HBB.out.1 rfl⟩
                    rw [Int.toNat_natCast]
                    constructor
                    · intro h; injection h with h; subst h; exact ⟨hlt, hun, HA.out⟩
                    · rintro ⟨h1, h2, h3⟩
                      rcases Nat.lt_trichotomy k id with h | h | h
                      · exact absurd hun (h3 k h)
                      · rw [h]
                      · exact absurd h2 (HA.out id h)⟩
                  go_wp2_with fail
                  go_ret2
                  exact ⟨some k, HI.out, rfl, B2.out⟩
                | false =>
                  have HA2 : Hid (∀ (j : Nat), j < k + 1 → ¬ Rd.Unheard m c v g l j) := Lib.hid (fun j hj => by
                    by_cases e : j = k
                    · rw [e, HUK.out]; exact fun h => by have := HBB.out.2 h.2; cases this
                    · exact HA.out j (by omega))
                  go_wp2_with fail
                  go_roundw
                  case rel => exact ⟨k + 1, by omega, by go_num, c0, c1, B2, HA2⟩
                  case measure => simp [intOf]; omega
            · obtain rfl : k = m := by omega
              have HI : Hid (Rd.IsHeard (k : Int) c v g l none) := Lib.hid ⟨fun _ => rfl, fun id _ => by
                rw [Int.toNat_natCast]
                constructor
                · intro h; cases h
                · rintro ⟨h1, h2, _⟩; exact absurd h2 (HA.out id h1)⟩
              go_wp2_with fail
              go_ret2
              exact ⟨none, HI.out, rfl, HB.out⟩
    · by_cases hal2 : a < len
      · have hag : a = g + 1 := by have h1 := HMIN.out; omega
        subst hag
        obtain ⟨b, off, rfl, hb, _⟩ := HL.out.row (by omega)
        have hgl1 : (g : Int) ≤ (len : Int) - 1 := by omega
        have HD := Lib.hid (HL.out.drop hal)
        have q1 : ¬ cap = g + 1 := by omega
        have q2 : (0 : Int) ≤ (g : Int) + 1 := by omega
        have q3 : (g : Int) + 1 ≤ (len : Int) := by omega
        have q4 : (len : Int) ≤ (cap : Int) := by omega
        go_enter Try.func84, Try.ntmps84
        have hmin := HMIN.out
        go_wp2_with fail
        clear hmin
        go_loopw [10, 30] (fun _ vi wr => ∃ k : Nat, k ≤ m ∧ vi = .int .i64 k ∧ wr.cell? ⟨w.heap.size, 0, none⟩ = some (.int .i64 c) ∧ wr.cell? ⟨w.heap.size, 1, none⟩ = some (.int .i64 v) ∧ Hid (Below w.heap.size w wr) ∧ Hid (∀ (j : Nat), j < k → ¬ Rd.Unheard m c v g l j)) (fun _ vi _ => m - (intOf vi).toNat)
        case atStart => exact ⟨0, by omega, rfl, by go_simp, by go_simp, Lib.hid (Kit.alloc1 ..), Lib.hid (fun j h => absurd h (by omega))⟩
        case round =>
          obtain ⟨k, hk, rfl, c0, c1, HB, HA⟩ := hrel
          have hws := World.block_lt_of_cell? wr ⟨w.heap.size, 0, none⟩ c0
          by_cases hlt : k < m
          · have cf : ∀ W, Calls Try.prog 112 #[.agg #[.int .i64 c, .int .i64 v], .int .i64 (k : Int)] W fun e w' => e = .returned (.bool (Vw.fnode c v k)) ∧ Below W.heap.size W w' := fun W => Vw.fnode_calls c v k W
            have hu := HU.out k
            have HUK := Lib.hid hu
            clear hu
            cases hq : Vw.fnode c v k with
            | true =>
              have HA2 : Hid (∀ (j : Nat), j < k + 1 → ¬ Rd.Unheard m c v g l j) := Lib.hid (fun j hj => by
                by_cases e : j = k
                · rw [e, HUK.out, hq]; simp
                · exact HA.out j (by omega))
              rw [hq] at cf
              clear hq
              go_wp2_with fail
              refine (cf _).mono ?_
              rintro e w1 ⟨rfl, b1⟩
              replace c0 := Kit.cell_below b1 c0
              replace c1 := Kit.cell_below b1 c1
              have B1 := Lib.hid (Kit.chain HB.out b1)
              clear b1
              go_wp2_with fail
              go_roundw
              case rel => exact ⟨k + 1, by omega, by go_num, c0, c1, B1, HA2⟩
              case measure => simp [intOf]; omega
            | false =>
              rw [hq] at cf
              go_wp2_with fail
              refine (cf _).mono ?_
              rintro e w1 ⟨rfl, b1⟩
              replace c0 := Kit.cell_below b1 c0
              replace c1 := Kit.cell_below b1 c1
              have B1 := Lib.hid (Kit.chain HB.out b1)
              clear b1
              have HQ := Lib.hid hq
              clear hq
              go_wp2_with fail
              refine (Rd.gap_calls m c v k _ _ _ (l.drop (g + 1)) _ (HD.out.below B1.out) (by omega) hm1 hm8).mono ?_
              rintro e w2 ⟨bb, rfl, hbb, b2⟩
              have HBB := Lib.hid hbb
              replace c0 := Kit.cell_below b2 c0
              replace c1 := Kit.cell_below b2 c1
              have B2 := Lib.hid (Kit.chain B1.out b2)
              clear b2 hbb
              cases bb with
              | true =>
                have HI : Hid (Rd.IsHeard (m : Int) c v g l (some k)) := Lib.hid ⟨fun h => absurd h HBAD.out, fun id _ => by
                  have hun : Rd.Unheard m c v g l k := HUK.out.2 ⟨HQ.out, HBB.out.1 rfl⟩
                  rw [Int.toNat_natCast]
                  constructor
                  · intro h; injection h with h; subst h; exact ⟨hlt, hun, HA.out⟩
                  · rintro ⟨h1, h2, h3⟩
                    rcases Nat.lt_trichotomy k id with h | h | h
                    · exact absurd hun (h3 k h)
                    · rw [h]
                    · exact absurd h2 (HA.out id h)⟩
                go_wp2_with fail
                go_ret2
                exact ⟨some k, HI.out, rfl, B2.out⟩
              | false =>
                have HA2 : Hid (∀ (j : Nat), j < k + 1 → ¬ Rd.Unheard m c v g l j) := Lib.hid (fun j hj => by
                  by_cases e : j = k
                  · rw [e, HUK.out]; exact fun h => by have := HBB.out.2 h.2; cases this
                  · exact HA.out j (by omega))
                go_wp2_with fail
                go_roundw
                case rel => exact ⟨k + 1, by omega, by go_num, c0, c1, B2, HA2⟩
                case measure => simp [intOf]; omega
          · obtain rfl : k = m := by omega
            have HI : Hid (Rd.IsHeard (k : Int) c v g l none) := Lib.hid ⟨fun _ => rfl, fun id _ => by
              rw [Int.toNat_natCast]
              constructor
              · intro h; cases h
              · rintro ⟨h1, h2, _⟩; exact absurd h2 (HA.out id h1)⟩
            go_wp2_with fail
            go_ret2
            exact ⟨none, HI.out, rfl, HB.out⟩
      · have hal3 : a = len := by omega
        subst hal3
        have HD : Hid (∀ (B : Option Addr) (n : Nat), n = 0 → Looks w B n (l.drop a)) := Lib.hid fun B n hn => by
          have hl0 : l.drop a = [] := by rw [List.drop_eq_nil_iff]; rw [HLL.out]; exact Nat.le_refl _
          rw [hl0, hn]
          exact ⟨⟨rfl, fun h => absurd h (by omega)⟩, fun z hz => by simp at hz⟩
        have hgl0 : (a : Int) - 1 ≤ (g : Int) := by have := HMIN.out; omega
        obtain ⟨b, off, rfl, hb, _⟩ := HL.out.row (by omega)
        by_cases hg2 : a = g + 1
        · subst hg2
          have hgl1 : (g : Int) ≤ ((g + 1 : Nat) : Int) - 1 := by omega
          clear hgl0
          by_cases hc0 : cap = g + 1
          · subst hc0
            have q2 : (0 : Int) ≤ (g : Int) + 1 := by omega
            go_enter Try.func84, Try.ntmps84
            have hmin := HMIN.out
            go_wp2_with fail
            clear hmin
            go_loopw [10, 30] (fun _ vi wr => ∃ k : Nat, k ≤ m ∧ vi = .int .i64 k ∧ wr.cell? ⟨w.heap.size, 0, none⟩ = some (.int .i64 c) ∧ wr.cell? ⟨w.heap.size, 1, none⟩ = some (.int .i64 v) ∧ Hid (Below w.heap.size w wr) ∧ Hid (∀ (j : Nat), j < k → ¬ Rd.Unheard m c v g l j)) (fun _ vi _ => m - (intOf vi).toNat)
            case atStart => exact ⟨0, by omega, rfl, by go_simp, by go_simp, Lib.hid (Kit.alloc1 ..), Lib.hid (fun j h => absurd h (by omega))⟩
            case round =>
              obtain ⟨k, hk, rfl, c0, c1, HB, HA⟩ := hrel
              have hws := World.block_lt_of_cell? wr ⟨w.heap.size, 0, none⟩ c0
              by_cases hlt : k < m
              · have cf : ∀ W, Calls Try.prog 112 #[.agg #[.int .i64 c, .int .i64 v], .int .i64 (k : Int)] W fun e w' => e = .returned (.bool (Vw.fnode c v k)) ∧ Below W.heap.size W w' := fun W => Vw.fnode_calls c v k W
                have hu := HU.out k
                have HUK := Lib.hid hu
                clear hu
                cases hq : Vw.fnode c v k with
                | true =>
                  have HA2 : Hid (∀ (j : Nat), j < k + 1 → ¬ Rd.Unheard m c v g l j) := Lib.hid (fun j hj => by
                    by_cases e : j = k
                    · rw [e, HUK.out, hq]; simp
                    · exact HA.out j (by omega))
                  rw [hq] at cf
                  clear hq
                  go_wp2_with fail
                  refine (cf _).mono ?_
                  rintro e w1 ⟨rfl, b1⟩
                  replace c0 := Kit.cell_below b1 c0
                  replace c1 := Kit.cell_below b1 c1
                  have B1 := Lib.hid (Kit.chain HB.out b1)
                  clear b1
                  go_wp2_with fail
                  go_roundw
                  case rel => exact ⟨k + 1, by omega, by go_num, c0, c1, B1, HA2⟩
                  case measure => simp [intOf]; omega
                | false =>
                  rw [hq] at cf
                  go_wp2_with fail
                  refine (cf _).mono ?_
                  rintro e w1 ⟨rfl, b1⟩
                  replace c0 := Kit.cell_below b1 c0
                  replace c1 := Kit.cell_below b1 c1
                  have B1 := Lib.hid (Kit.chain HB.out b1)
                  clear b1
                  have HQ := Lib.hid hq
                  clear hq
                  go_wp2_with fail
                  refine (Rd.gap_calls m c v k _ _ _ (l.drop (g + 1)) _ ((HD.out _ _ (by first | rfl | omega | simp)).below B1.out) (by omega) hm1 hm8).mono ?_
                  rintro e w2 ⟨bb, rfl, hbb, b2⟩
                  have HBB := Lib.hid hbb
                  replace c0 := Kit.cell_below b2 c0
                  replace c1 := Kit.cell_below b2 c1
                  have B2 := Lib.hid (Kit.chain B1.out b2)
                  clear b2 hbb
                  cases bb with
                  | true =>
                    have HI : Hid (Rd.IsHeard (m : Int) c v g l (some k)) := Lib.hid ⟨fun h => absurd h HBAD.out, fun id _ => by
                      have hun : Rd.Unheard m c v g l k := HUK.out.2 ⟨HQ.out, HBB.out.1 rfl⟩
                      rw [Int.toNat_natCast]
                      constructor
                      · intro h; injection h with h; subst h; exact ⟨hlt, hun, HA.out⟩
                      · rintro ⟨h1, h2, h3⟩
                        rcases Nat.lt_trichotomy k id with h | h | h
                        · exact absurd hun (h3 k h)
                        · rw [h]
                        · exact absurd h2 (HA.out id h)⟩
                    go_wp2_with fail
                    go_ret2
                    exact ⟨some k, HI.out, rfl, B2.out⟩
                  | false =>
                    have HA2 : Hid (∀ (j : Nat), j < k + 1 → ¬ Rd.Unheard m c v g l j) := Lib.hid (fun j hj => by
                      by_cases e : j = k
                      · rw [e, HUK.out]; exact fun h => by have := HBB.out.2 h.2; cases this
                      · exact HA.out j (by omega))
                    go_wp2_with fail
                    go_roundw
                    case rel => exact ⟨k + 1, by omega, by go_num, c0, c1, B2, HA2⟩
                    case measure => simp [intOf]; omega
              · obtain rfl : k = m := by omega
                have HI : Hid (Rd.IsHeard (k : Int) c v g l none) := Lib.hid ⟨fun _ => rfl, fun id _ => by
                  rw [Int.toNat_natCast]
                  constructor
                  · intro h; cases h
                  · rintro ⟨h1, h2, _⟩; exact absurd h2 (HA.out id h1)⟩
                go_wp2_with fail
                go_ret2
                exact ⟨none, HI.out, rfl, HB.out⟩
          · have q2 : (0 : Int) ≤ (g : Int) + 1 := by omega
            have q4 : (g : Int) + 1 ≤ (cap : Int) := by omega
            go_enter Try.func84, Try.ntmps84
            have hmin := HMIN.out
            go_wp2_with fail
            clear hmin
            go_loopw [10, 30] (fun _ vi wr => ∃ k : Nat, k ≤ m ∧ vi = .int .i64 k ∧ wr.cell? ⟨w.heap.size, 0, none⟩ = some (.int .i64 c) ∧ wr.cell? ⟨w.heap.size, 1, none⟩ = some (.int .i64 v) ∧ Hid (Below w.heap.size w wr) ∧ Hid (∀ (j : Nat), j < k → ¬ Rd.Unheard m c v g l j)) (fun _ vi _ => m - (intOf vi).toNat)
            case atStart => exact ⟨0, by omega, rfl, by go_simp, by go_simp, Lib.hid (Kit.alloc1 ..), Lib.hid (fun j h => absurd h (by omega))⟩
            case round =>
              obtain ⟨k, hk, rfl, c0, c1, HB, HA⟩ := hrel
              have hws := World.block_lt_of_cell? wr ⟨w.heap.size, 0, none⟩ c0
              by_cases hlt : k < m
              · have cf : ∀ W, Calls Try.prog 112 #[.agg #[.int .i64 c, .int .i64 v], .int .i64 (k : Int)] W fun e w' => e = .returned (.bool (Vw.fnode c v k)) ∧ Below W.heap.size W w' := fun W => Vw.fnode_calls c v k W
                have hu := HU.out k
                have HUK := Lib.hid hu
                clear hu
                cases hq : Vw.fnode c v k with
                | true =>
                  have HA2 : Hid (∀ (j : Nat), j < k + 1 → ¬ Rd.Unheard m c v g l j) := Lib.hid (fun j hj => by
                    by_cases e : j = k
                    · rw [e, HUK.out, hq]; simp
                    · exact HA.out j (by omega))
                  rw [hq] at cf
                  clear hq
                  go_wp2_with fail
                  refine (cf _).mono ?_
                  rintro e w1 ⟨rfl, b1⟩
                  replace c0 := Kit.cell_below b1 c0
                  replace c1 := Kit.cell_below b1 c1
                  have B1 := Lib.hid (Kit.chain HB.out b1)
                  clear b1
                  go_wp2_with fail
                  go_roundw
                  case rel => exact ⟨k + 1, by omega, by go_num, c0, c1, B1, HA2⟩
                  case measure => simp [intOf]; omega
                | false =>
                  rw [hq] at cf
                  go_wp2_with fail
                  refine (cf _).mono ?_
                  rintro e w1 ⟨rfl, b1⟩
                  replace c0 := Kit.cell_below b1 c0
                  replace c1 := Kit.cell_below b1 c1
                  have B1 := Lib.hid (Kit.chain HB.out b1)
                  clear b1
                  have HQ := Lib.hid hq
                  clear hq
                  go_wp2_with fail
                  refine (Rd.gap_calls m c v k _ _ _ (l.drop (g + 1)) _ ((HD.out _ _ (by first | rfl | omega | simp)).below B1.out) (by omega) hm1 hm8).mono ?_
                  rintro e w2 ⟨bb, rfl, hbb, b2⟩
                  have HBB := Lib.hid hbb
                  replace c0 := Kit.cell_below b2 c0
                  replace c1 := Kit.cell_below b2 c1
                  have B2 := Lib.hid (Kit.chain B1.out b2)
                  clear b2 hbb
                  cases bb with
                  | true =>
                    have HI : Hid (Rd.IsHeard (m : Int) c v g l (some k)) := Lib.hid ⟨fun h => absurd h HBAD.out, fun id _ => by
                      have hun : Rd.Unheard m c v g l k := HUK.out.2 ⟨HQ.out, HBB.out.1 rfl⟩
                      rw [Int.toNat_natCast]
                      constructor
                      · intro h; injection h with h; subst h; exact ⟨hlt, hun, HA.out⟩
                      · rintro ⟨h1, h2, h3⟩
                        rcases Nat.lt_trichotomy k id with h | h | h
                        · exact absurd hun (h3 k h)
                        · rw [h]
                        · exact absurd h2 (HA.out id h)⟩
                    go_wp2_with fail
                    go_ret2
                    exact ⟨some k, HI.out, rfl, B2.out⟩
                  | false =>
                    have HA2 : Hid (∀ (j : Nat), j < k + 1 → ¬ Rd.Unheard m c v g l j) := Lib.hid (fun j hj => by
                      by_cases e : j = k
                      · rw [e, HUK.out]; exact fun h => by have := HBB.out.2 h.2; cases this
                      · exact HA.out j (by omega))
                    go_wp2_with fail
                    go_roundw
                    case rel => exact ⟨k + 1, by omega, by go_num, c0, c1, B2, HA2⟩
                    case measure => simp [intOf]; omega
              · obtain rfl : k = m := by omega
                have HI : Hid (Rd.IsHeard (k : Int) c v g l none) := Lib.hid ⟨fun _ => rfl, fun id _ => by
                  rw [Int.toNat_natCast]
                  constructor
                  · intro h; cases h
                  · rintro ⟨h1, h2, _⟩; exact absurd h2 (HA.out id h1)⟩
                go_wp2_with fail
                go_ret2
                exact ⟨none, HI.out, rfl, HB.out⟩
        · have hgl1 : (a : Int) - 1 < (g : Int) := by omega
          have hgl2 : ¬ (g : Int) ≤ (a : Int) - 1 := by omega
          clear hgl0 hg2
          by_cases hc0 : cap = a
          · subst hc0
            have q2 : (0 : Int) ≤ (cap : Int) := by omega
            go_enter Try.func84, Try.ntmps84
            have hmin := HMIN.out
            go_wp2_with fail
            clear hmin
            go_loopw [10, 30] (fun _ vi wr => ∃ k : Nat, k ≤ m ∧ vi = .int .i64 k ∧ wr.cell? ⟨w.heap.size, 0, none⟩ = some (.int .i64 c) ∧ wr.cell? ⟨w.heap.size, 1, none⟩ = some (.int .i64 v) ∧ Hid (Below w.heap.size w wr) ∧ Hid (∀ (j : Nat), j < k → ¬ Rd.Unheard m c v g l j)) (fun _ vi _ => m - (intOf vi).toNat)
            case atStart => exact ⟨0, by omega, rfl, by go_simp, by go_simp, Lib.hid (Kit.alloc1 ..), Lib.hid (fun j h => absurd h (by omega))⟩
            case round =>
              obtain ⟨k, hk, rfl, c0, c1, HB, HA⟩ := hrel
              have hws := World.block_lt_of_cell? wr ⟨w.heap.size, 0, none⟩ c0
              by_cases hlt : k < m
              · have cf : ∀ W, Calls Try.prog 112 #[.agg #[.int .i64 c, .int .i64 v], .int .i64 (k : Int)] W fun e w' => e = .returned (.bool (Vw.fnode c v k)) ∧ Below W.heap.size W w' := fun W => Vw.fnode_calls c v k W
                have hu := HU.out k
                have HUK := Lib.hid hu
                clear hu
                cases hq : Vw.fnode c v k with
                | true =>
                  have HA2 : Hid (∀ (j : Nat), j < k + 1 → ¬ Rd.Unheard m c v g l j) := Lib.hid (fun j hj => by
                    by_cases e : j = k
                    · rw [e, HUK.out, hq]; simp
                    · exact HA.out j (by omega))
                  rw [hq] at cf
                  clear hq
                  go_wp2_with fail
                  refine (cf _).mono ?_
                  rintro e w1 ⟨rfl, b1⟩
                  replace c0 := Kit.cell_below b1 c0
                  replace c1 := Kit.cell_below b1 c1
                  have B1 := Lib.hid (Kit.chain HB.out b1)
                  clear b1
                  go_wp2_with fail
                  go_roundw
                  case rel => exact ⟨k + 1, by omega, by go_num, c0, c1, B1, HA2⟩
                  case measure => simp [intOf]; omega
                | false =>
                  rw [hq] at cf
                  go_wp2_with fail
                  refine (cf _).mono ?_
                  rintro e w1 ⟨rfl, b1⟩
                  replace c0 := Kit.cell_below b1 c0
                  replace c1 := Kit.cell_below b1 c1
                  have B1 := Lib.hid (Kit.chain HB.out b1)
                  clear b1
                  have HQ := Lib.hid hq
                  clear hq
                  go_wp2_with fail
                  refine (Rd.gap_calls m c v k _ _ _ (l.drop cap) _ ((HD.out _ _ (by first | rfl | omega | simp)).below B1.out) (by omega) hm1 hm8).mono ?_
                  rintro e w2 ⟨bb, rfl, hbb, b2⟩
                  have HBB := Lib.hid hbb
                  replace c0 := Kit.cell_below b2 c0
                  replace c1 := Kit.cell_below b2 c1
                  have B2 := Lib.hid (Kit.chain B1.out b2)
                  clear b2 hbb
                  cases bb with
                  | true =>
                    have HI : Hid (Rd.IsHeard (m : Int) c v g l (some k)) := Lib.hid ⟨fun h => absurd h HBAD.out, fun id _ => by
                      have hun : Rd.Unheard m c v g l k := HUK.out.2 ⟨HQ.out, HBB.out.1 rfl⟩
                      rw [Int.toNat_natCast]
                      constructor
                      · intro h; injection h with h; subst h; exact ⟨hlt, hun, HA.out⟩
                      · rintro ⟨h1, h2, h3⟩
                        rcases Nat.lt_trichotomy k id with h | h | h
                        · exact absurd hun (h3 k h)
                        · rw [h]
                        · exact absurd h2 (HA.out id h)⟩
                    go_wp2_with fail
                    go_ret2
                    exact ⟨some k, HI.out, rfl, B2.out⟩
                  | false =>
                    have HA2 : Hid (∀ (j : Nat), j < k + 1 → ¬ Rd.Unheard m c v g l j) := Lib.hid (fun j hj => by
                      by_cases e : j = k
                      · rw [e, HUK.out]; exact fun h => by have := HBB.out.2 h.2; cases this
                      · exact HA.out j (by omega))
                    go_wp2_with fail
                    go_roundw
                    case rel => exact ⟨k + 1, by omega, by go_num, c0, c1, B2, HA2⟩
                    case measure => simp [intOf]; omega
              · obtain rfl : k = m := by omega
                have HI : Hid (Rd.IsHeard (k : Int) c v g l none) := Lib.hid ⟨fun _ => rfl, fun id _ => by
                  rw [Int.toNat_natCast]
                  constructor
                  · intro h; cases h
                  · rintro ⟨h1, h2, _⟩; exact absurd h2 (HA.out id h1)⟩
                go_wp2_with fail
                go_ret2
                exact ⟨none, HI.out, rfl, HB.out⟩
          · have q2 : (0 : Int) ≤ (a : Int) := by omega
            have q4 : (a : Int) ≤ (cap : Int) := by omega
            go_enter Try.func84, Try.ntmps84
            have hmin := HMIN.out
            go_wp2_with fail
            clear hmin
            go_loopw [10, 30] (fun _ vi wr => ∃ k : Nat, k ≤ m ∧ vi = .int .i64 k ∧ wr.cell? ⟨w.heap.size, 0, none⟩ = some (.int .i64 c) ∧ wr.cell? ⟨w.heap.size, 1, none⟩ = some (.int .i64 v) ∧ Hid (Below w.heap.size w wr) ∧ Hid (∀ (j : Nat), j < k → ¬ Rd.Unheard m c v g l j)) (fun _ vi _ => m - (intOf vi).toNat)
            case atStart => exact ⟨0, by omega, rfl, by go_simp, by go_simp, Lib.hid (Kit.alloc1 ..), Lib.hid (fun j h => absurd h (by omega))⟩
            case round =>
              obtain ⟨k, hk, rfl, c0, c1, HB, HA⟩ := hrel
              have hws := World.block_lt_of_cell? wr ⟨w.heap.size, 0, none⟩ c0
              by_cases hlt : k < m
              · have cf : ∀ W, Calls Try.prog 112 #[.agg #[.int .i64 c, .int .i64 v], .int .i64 (k : Int)] W fun e w' => e = .returned (.bool (Vw.fnode c v k)) ∧ Below W.heap.size W w' := fun W => Vw.fnode_calls c v k W
                have hu := HU.out k
                have HUK := Lib.hid hu
                clear hu
                cases hq : Vw.fnode c v k with
                | true =>
                  have HA2 : Hid (∀ (j : Nat), j < k + 1 → ¬ Rd.Unheard m c v g l j) := Lib.hid (fun j hj => by
                    by_cases e : j = k
                    · rw [e, HUK.out, hq]; simp
                    · exact HA.out j (by omega))
                  rw [hq] at cf
                  clear hq
                  go_wp2_with fail
                  refine (cf _).mono ?_
                  rintro e w1 ⟨rfl, b1⟩
                  replace c0 := Kit.cell_below b1 c0
                  replace c1 := Kit.cell_below b1 c1
                  have B1 := Lib.hid (Kit.chain HB.out b1)
                  clear b1
                  go_wp2_with fail
                  go_roundw
                  case rel => exact ⟨k + 1, by omega, by go_num, c0, c1, B1, HA2⟩
                  case measure => simp [intOf]; omega
                | false =>
                  rw [hq] at cf
                  go_wp2_with fail
                  refine (cf _).mono ?_
                  rintro e w1 ⟨rfl, b1⟩
                  replace c0 := Kit.cell_below b1 c0
                  replace c1 := Kit.cell_below b1 c1
                  have B1 := Lib.hid (Kit.chain HB.out b1)
                  clear b1
                  have HQ := Lib.hid hq
                  clear hq
                  go_wp2_with fail
                  refine (Rd.gap_calls m c v k _ _ _ (l.drop a) _ ((HD.out _ _ (by first | rfl | omega | simp)).below B1.out) (by omega) hm1 hm8).mono ?_
                  rintro e w2 ⟨bb, rfl, hbb, b2⟩
                  have HBB := Lib.hid hbb
                  replace c0 := Kit.cell_below b2 c0
                  replace c1 := Kit.cell_below b2 c1
                  have B2 := Lib.hid (Kit.chain B1.out b2)
                  clear b2 hbb
                  cases bb with
                  | true =>
                    have HI : Hid (Rd.IsHeard (m : Int) c v g l (some k)) := Lib.hid ⟨fun h => absurd h HBAD.out, fun id _ => by
                      have hun : Rd.Unheard m c v g l k := HUK.out.2 ⟨HQ.out, HBB.out.1 rfl⟩
                      rw [Int.toNat_natCast]
                      constructor
                      · intro h; injection h with h; subst h; exact ⟨hlt, hun, HA.out⟩
                      · rintro ⟨h1, h2, h3⟩
                        rcases Nat.lt_trichotomy k id with h | h | h
                        · exact absurd hun (h3 k h)
                        · rw [h]
                        · exact absurd h2 (HA.out id h)⟩
                    go_wp2_with fail
                    go_ret2
                    exact ⟨some k, HI.out, rfl, B2.out⟩
                  | false =>
                    have HA2 : Hid (∀ (j : Nat), j < k + 1 → ¬ Rd.Unheard m c v g l j) := Lib.hid (fun j hj => by
                      by_cases e : j = k
                      · rw [e, HUK.out]; exact fun h => by have := HBB.out.2 h.2; cases this
                      · exact HA.out j (by omega))
                    go_wp2_with fail
                    go_roundw
                    case rel => exact ⟨k + 1, by omega, by go_num, c0, c1, B2, HA2⟩
                    case measure => simp [intOf]; omega
              · obtain rfl : k = m := by omega
                have HI : Hid (Rd.IsHeard (k : Int) c v g l none) := Lib.hid ⟨fun _ => rfl, fun id _ => by
                  rw [Int.toNat_natCast]
                  constructor
                  · intro h; cases h
                  · rintro ⟨h1, h2, _⟩; exact absurd h2 (HA.out id h1)⟩
                go_wp2_with fail
                go_ret2
                exact ⟨none, HI.out, rfl, HB.out⟩
end Go.Proofs.Ytpbkoooljelhjaa
