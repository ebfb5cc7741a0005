/-
  The walks of daybreakref22.heard and Heard.
-/
import Derived.Test.YtpbkoooljelhjaaRound5
import Derived.Test.YtpbkoooljelhjaaRound7
namespace Go.Proofs.Ytpbkoooljelhjaa
set_option linter.unusedVariables false
set_option linter.unusedSimpArgs false
open Go.RowKit

theorem Rd.says_eq (c v id : Int) (x : Lk) : Rd.says c v id x = ((!Rd.fhub c v 0 && (x.r0.k == 2 && x.r0.i == id)) || (!Rd.fhub c v 1 && (x.r1.k == 2 && x.r1.i == id))) := by
  have hc : ∀ x y : Int, (x == y) = (y == x) := fun x y => BEq.comm
  unfold Rd.says Rd.relayed Rd.pick
  rw [hc x.r0.k, hc x.r0.i, hc x.r1.k, hc x.r1.i]
  cases Rd.fhub c v 0 <;> cases Rd.fhub c v 1 <;> simp
/-- What heard answers. -/
def Rd.SomeSays (c v id : Int) (l : List Lk) (w : World) (e : Ending) (w' : World) : Prop := ∃ b : Bool, e = .returned (.bool b) ∧ (b = true ↔ ∃ k, k < l.length ∧ Rd.saysAt c v id l k = true) ∧ Below w.heap.size w w'

set_option maxHeartbeats 4000000 in
set_option maxRecDepth 100000 in
/-- daybreakref22.heard. -/
theorem Rd.rsome_calls (c v id : Int) (A : Option Addr) (len cap : Nat) (l : List Lk) (w : World) (hl : Looks w A len l) (hlen : len ≤ 1000000) :
    Calls Try.prog 114 #[.agg #[.int .i64 c, .int .i64 v], .slice A len cap, .int .i64 id] w (Rd.SomeSays c v id l w) := by
  have HL := Lib.hid hl
  have hll := hl.len
  have HLL := Lib.hid hll
  have cf0 : ∀ W, Calls Try.prog 115 #[.agg #[.int .i64 c, .int .i64 v], .int .i64 0] W fun e w' => e = .returned (.bool (Rd.fhub c v 0)) ∧ Below W.heap.size W w' := fun W => Rd.rhub_calls c v 0 W
  have cf1 : ∀ W, Calls Try.prog 115 #[.agg #[.int .i64 c, .int .i64 v], .int .i64 1] W fun e w' => e = .returned (.bool (Rd.fhub c v 1)) ∧ Below W.heap.size W w' := fun W => Rd.rhub_calls c v 1 W
  have CF0 := Lib.hid cf0
  have CF1 := Lib.hid cf1
  clear hl hll cf0 cf1
  go_enter Try.func114, Try.ntmps114
  go_wp2_with fail
  go_loopw [7, 8] (fun vi _ wr => ∃ k : Nat, k ≤ len ∧ vi = .int .i64 k ∧ wr.cell? ⟨w.heap.size, 0, none⟩ = some (.int .i64 c) ∧ wr.cell? ⟨w.heap.size, 1, none⟩ = some (.int .i64 v) ∧ Hid (Below w.heap.size w wr) ∧ Hid (∀ j : Nat, j < k → Rd.saysAt c v id l j = false)) (fun vi _ _ => len - (intOf vi).toNat)
  case atStart => exact ⟨0, by omega, rfl, by go_simp, by go_simp, Lib.hid (Kit.alloc1 ..), Lib.hid (fun j h => absurd h (by omega))⟩
  case round =>
    obtain ⟨k, hk, rfl, c0, c1, HB, HA⟩ := hrel
    by_cases hlt : k < len
    · obtain ⟨b, off, rfl, hb, hrow⟩ := HL.out.row (by omega)
      have hkl : k < l.length := by rw [HLL.out]; exact hlt
      obtain ⟨x, hx⟩ : ∃ x, l[k]? = some x := ⟨_, List.getElem?_eq_getElem hkl⟩
      obtain ⟨m0, m1, m2, m3, m4, m5⟩ := hrow k x hx
      replace m1 := (HB.out.cell (p := ⟨b, _, none⟩) hb).trans m1
      replace m2 := (HB.out.cell (p := ⟨b, _, none⟩) hb).trans m2
      replace m3 := (HB.out.cell (p := ⟨b, _, none⟩) hb).trans m3
      replace m4 := (HB.out.cell (p := ⟨b, _, none⟩) hb).trans m4
      have hsy : Rd.saysAt c v id l k = ((!Rd.fhub c v 0 && (x.r0.k == 2 && x.r0.i == id)) || (!Rd.fhub c v 1 && (x.r1.k == 2 && x.r1.i == id))) := by unfold Rd.saysAt; rw [Sy.getD_of hx]; exact Rd.says_eq c v id x
      have HSY := Lib.hid hsy
      clear hrow hx hsy m0 m5
      obtain ⟨xt, ⟨x0k, x0i⟩, ⟨x1k, x1i⟩, xA, xn, xc, xs⟩ := x
      simp only at m1 m2 m3 m4 HSY
      generalize hF0 : Rd.fhub c v 0 = f0 at *
      generalize hF1 : Rd.fhub c v 1 = f1 at *
      have F0 := Lib.hid hF0
      have F1 := Lib.hid hF1
      clear hF0 hF1
      have ix0 : (0 : Int) ≤ (k : Int) := by omega
      have ix1 : (k : Int) < (len : Int) := by omega
      go_wp2_with fail
      go_loopw [8] (fun vh wr => ∃ h : Nat, h ≤ 2 ∧ vh = .int .i64 h ∧ (wr.cell? ⟨w.heap.size, 0, none⟩ = some (.int .i64 c) ∧ wr.cell? ⟨w.heap.size, 1, none⟩ = some (.int .i64 v)) ∧ (wr.cell? ⟨b, off + k * 6 + 1, none⟩ = some (.int .i64 x0k) ∧ wr.cell? ⟨b, off + k * 6 + 2, none⟩ = some (.int .i64 x0i) ∧ wr.cell? ⟨b, off + k * 6 + 3, none⟩ = some (.int .i64 x1k) ∧ wr.cell? ⟨b, off + k * 6 + 4, none⟩ = some (.int .i64 x1i)) ∧ Hid (Below w.heap.size w wr) ∧ Hid ((1 ≤ h → (!f0 && (x0k == 2 && x0i == id)) = false) ∧ (2 ≤ h → (!f1 && (x1k == 2 && x1i == id)) = false))) (fun vh _ => 2 - (intOf vh).toNat)
      case atStart => exact ⟨0, by omega, rfl, ⟨c0, c1⟩, ⟨m1, m2, m3, m4⟩, HB, Lib.hid ⟨fun h => absurd h (by omega), fun h => absurd h (by omega)⟩⟩
      case round =>
        clear c0 c1 m1 m2 m3 m4 HB
        obtain ⟨h, hh, rfl, ⟨c0, c1⟩, ⟨m1, m2, m3, m4⟩, HB, HH⟩ := hrel
        have hh' : h = 0 ∨ h = 1 ∨ h = 2 := by omega
        rcases hh' with rfl | rfl | rfl
        · have cf := CF0.out
          rcases Bool.eq_false_or_eq_true f0 with hf | hf
          · rw [hf] at cf
            have HN : Hid ((!f0 && (x0k == 2 && x0i == id)) = false) := Lib.hid (by simp_all)
            clear hf
            go_wp2_with fail
            refine (cf _).mono ?_
            rintro e w3 ⟨rfl, b3⟩
            replace c0 := Kit.cell_below b3 c0
            replace c1 := Kit.cell_below b3 c1
            replace m1 := Kit.cell_below b3 m1
            replace m2 := Kit.cell_below b3 m2
            replace m3 := Kit.cell_below b3 m3
            replace m4 := Kit.cell_below b3 m4
            have B3 := Lib.hid (Kit.chain HB.out b3)
            clear b3
            go_wp2_with fail
            go_roundw
            case rel => exact ⟨1, by omega, by go_num, ⟨c0, c1⟩, ⟨m1, m2, m3, m4⟩, B3, Lib.hid ⟨fun _ => HN.out, fun h => absurd h (by omega)⟩⟩
            case measure => first | decide | omega | (simp [intOf]; done) | (simp [intOf]; omega)
          · rw [hf] at cf
            rcases Bool.eq_false_or_eq_true (x0k == 2) with e1 | e1
            · rcases Bool.eq_false_or_eq_true (x0i == id) with e2 | e2
              · have HS : Hid (Rd.saysAt c v id l k = true) := Lib.hid (by rw [HSY.out, hf, e1, e2]; simp)
                clear hf
                go_wp2_with fail
                refine (cf _).mono ?_
                rintro e w3 ⟨rfl, b3⟩
                replace c0 := Kit.cell_below b3 c0
                replace c1 := Kit.cell_below b3 c1
                replace m1 := Kit.cell_below b3 m1
                replace m2 := Kit.cell_below b3 m2
                replace m3 := Kit.cell_below b3 m3
                replace m4 := Kit.cell_below b3 m4
                have B3 := Lib.hid (Kit.chain HB.out b3)
                clear b3
                go_wp2_with fail
                go_ret
                exact ⟨true, rfl, ⟨fun _ => ⟨k, hkl, HS.out⟩, fun _ => rfl⟩, B3.out⟩
              · have HN : Hid ((!f0 && (x0k == 2 && x0i == id)) = false) := Lib.hid (by simp_all)
                clear hf
                go_wp2_with fail
                refine (cf _).mono ?_
                rintro e w3 ⟨rfl, b3⟩
                replace c0 := Kit.cell_below b3 c0
                replace c1 := Kit.cell_below b3 c1
                replace m1 := Kit.cell_below b3 m1
                replace m2 := Kit.cell_below b3 m2
                replace m3 := Kit.cell_below b3 m3
                replace m4 := Kit.cell_below b3 m4
                have B3 := Lib.hid (Kit.chain HB.out b3)
                clear b3
                go_wp2_with fail
                go_roundw
                case rel => exact ⟨1, by omega, by go_num, ⟨c0, c1⟩, ⟨m1, m2, m3, m4⟩, B3, Lib.hid ⟨fun _ => HN.out, fun h => absurd h (by omega)⟩⟩
                case measure => first | decide | omega | (simp [intOf]; done) | (simp [intOf]; omega)
            · have HN : Hid ((!f0 && (x0k == 2 && x0i == id)) = false) := Lib.hid (by simp_all)
              clear hf
              go_wp2_with fail
              refine (cf _).mono ?_
              rintro e w3 ⟨rfl, b3⟩
              replace c0 := Kit.cell_below b3 c0
              replace c1 := Kit.cell_below b3 c1
              replace m1 := Kit.cell_below b3 m1
              replace m2 := Kit.cell_below b3 m2
              replace m3 := Kit.cell_below b3 m3
              replace m4 := Kit.cell_below b3 m4
              have B3 := Lib.hid (Kit.chain HB.out b3)
              clear b3
              go_wp2_with fail
              go_roundw
              case rel => exact ⟨1, by omega, by go_num, ⟨c0, c1⟩, ⟨m1, m2, m3, m4⟩, B3, Lib.hid ⟨fun _ => HN.out, fun h => absurd h (by omega)⟩⟩
              case measure => first | decide | omega | (simp [intOf]; done) | (simp [intOf]; omega)
        · have cf := CF1.out
          rcases Bool.eq_false_or_eq_true f1 with hf | hf
          · rw [hf] at cf
            have HN : Hid ((!f1 && (x1k == 2 && x1i == id)) = false) := Lib.hid (by simp_all)
            clear hf
            go_wp2_with fail
            refine (cf _).mono ?_
            rintro e w3 ⟨rfl, b3⟩
            replace c0 := Kit.cell_below b3 c0
            replace c1 := Kit.cell_below b3 c1
            replace m1 := Kit.cell_below b3 m1
            replace m2 := Kit.cell_below b3 m2
            replace m3 := Kit.cell_below b3 m3
            replace m4 := Kit.cell_below b3 m4
            have B3 := Lib.hid (Kit.chain HB.out b3)
            clear b3
            go_wp2_with fail
            go_roundw
            case rel => exact ⟨2, by omega, by go_num, ⟨c0, c1⟩, ⟨m1, m2, m3, m4⟩, B3, Lib.hid ⟨fun _ => HH.out.1 (by omega), fun _ => HN.out⟩⟩
            case measure => first | decide | omega | (simp [intOf]; done) | (simp [intOf]; omega)
          · rw [hf] at cf
            rcases Bool.eq_false_or_eq_true (x1k == 2) with e1 | e1
            · rcases Bool.eq_false_or_eq_true (x1i == id) with e2 | e2
              · have HS : Hid (Rd.saysAt c v id l k = true) := Lib.hid (by rw [HSY.out, hf, e1, e2]; simp)
                clear hf
                go_wp2_with fail
                refine (cf _).mono ?_
                rintro e w3 ⟨rfl, b3⟩
                replace c0 := Kit.cell_below b3 c0
                replace c1 := Kit.cell_below b3 c1
                replace m1 := Kit.cell_below b3 m1
                replace m2 := Kit.cell_below b3 m2
                replace m3 := Kit.cell_below b3 m3
                replace m4 := Kit.cell_below b3 m4
                have B3 := Lib.hid (Kit.chain HB.out b3)
                clear b3
                go_wp2_with fail
                go_ret
                exact ⟨true, rfl, ⟨fun _ => ⟨k, hkl, HS.out⟩, fun _ => rfl⟩, B3.out⟩
              · have HN : Hid ((!f1 && (x1k == 2 && x1i == id)) = false) := Lib.hid (by simp_all)
                clear hf
                go_wp2_with fail
                refine (cf _).mono ?_
                rintro e w3 ⟨rfl, b3⟩
                replace c0 := Kit.cell_below b3 c0
                replace c1 := Kit.cell_below b3 c1
                replace m1 := Kit.cell_below b3 m1
                replace m2 := Kit.cell_below b3 m2
                replace m3 := Kit.cell_below b3 m3
                replace m4 := Kit.cell_below b3 m4
                have B3 := Lib.hid (Kit.chain HB.out b3)
                clear b3
                go_wp2_with fail
                go_roundw
                case rel => exact ⟨2, by omega, by go_num, ⟨c0, c1⟩, ⟨m1, m2, m3, m4⟩, B3, Lib.hid ⟨fun _ => HH.out.1 (by omega), fun _ => HN.out⟩⟩
                case measure => first | decide | omega | (simp [intOf]; done) | (simp [intOf]; omega)
            · have HN : Hid ((!f1 && (x1k == 2 && x1i == id)) = false) := Lib.hid (by simp_all)
              clear hf
              go_wp2_with fail
              refine (cf _).mono ?_
              rintro e w3 ⟨rfl, b3⟩
              replace c0 := Kit.cell_below b3 c0
              replace c1 := Kit.cell_below b3 c1
              replace m1 := Kit.cell_below b3 m1
              replace m2 := Kit.cell_below b3 m2
              replace m3 := Kit.cell_below b3 m3
              replace m4 := Kit.cell_below b3 m4
              have B3 := Lib.hid (Kit.chain HB.out b3)
              clear b3
              go_wp2_with fail
              go_roundw
              case rel => exact ⟨2, by omega, by go_num, ⟨c0, c1⟩, ⟨m1, m2, m3, m4⟩, B3, Lib.hid ⟨fun _ => HH.out.1 (by omega), fun _ => HN.out⟩⟩
              case measure => first | decide | omega | (simp [intOf]; done) | (simp [intOf]; omega)
        · have HS : Hid (Rd.saysAt c v id l k = false) := Lib.hid (by rw [HSY.out, HH.out.1 (by omega), HH.out.2 (by omega)]; rfl)
          have HA2 : Hid (∀ j : Nat, j < k + 1 → Rd.saysAt c v id l j = false) := Lib.hid (fun j hj => by
            by_cases e : j = k
            · rw [e]; exact HS.out
            · exact HA.out j (by omega))
          go_wp2_with fail
          go_roundw
          case rel => exact ⟨k + 1, by omega, by go_num, c0, c1, HB, HA2⟩
          case measure => simp [intOf]; omega
    · obtain rfl : k = len := by omega
      go_wp2_with fail
      go_ret
      refine ⟨false, rfl, ⟨fun h => absurd h (by simp), fun ⟨i, hi, hq⟩ => ?_⟩, HB.out⟩
      rw [HA.out i (by rw [HLL.out] at hi; exact hi)] at hq
      cases hq

set_option maxHeartbeats 4000000 in
set_option maxRecDepth 100000 in
/-- daybreakref22.Heard. -/
theorem Rd.rheard_calls (n c v f : Int) (A : Option Addr) (len cap : Nat) (l : List Lk) (w : World) (hl : Looks w A len l) (hlen : len ≤ 1000000) (hcap : len ≤ cap) (hf1 : -9223372036854775808 ≤ f) (hf2 : f ≤ 9223372036854775807) :
    Calls Try.prog 85 #[.int .i64 n, .agg #[.int .i64 c, .int .i64 v], .slice A len cap, .int .i64 f] w (Rd.HeardSays n c v f l w) := by
  have HL := Lib.hid hl
  have hll := hl.len
  have HLL := Lib.hid hll
  clear hl hll
  by_cases hbad : f < 0 ∨ n < 1 ∨ 8 < n
  · have HI : Hid (Rd.IsHeard n c v f l none) := Lib.hid ⟨fun _ => rfl, fun id h => absurd hbad h⟩
    by_cases h1 : f < 0
    · have g1 : decide (f < 0) = true := decide_eq_true h1
      clear hbad
      go_enter Try.func85, Try.ntmps85
      go_wp2_with fail
      go_ret2
      exact ⟨none, HI.out, rfl, Kit.alloc1 ..⟩
    · have g1 : decide (f < 0) = false := decide_eq_false h1
      by_cases h2 : n < 1
      · have g2 : decide (n < 1) = true := decide_eq_true h2
        clear hbad
        go_enter Try.func85, Try.ntmps85
        go_wp2_with fail
        go_ret2
        exact ⟨none, HI.out, rfl, Kit.alloc1 ..⟩
      · have g2 : decide (n < 1) = false := decide_eq_false h2
        have g3 : decide (8 < n) = true := decide_eq_true (by omega)
        clear hbad
        go_enter Try.func85, Try.ntmps85
        go_wp2_with fail
        go_ret2
        exact ⟨none, HI.out, rfl, Kit.alloc1 ..⟩
  · obtain ⟨g, rfl⟩ := Int.eq_ofNat_of_zero_le (show 0 ≤ f by omega)
    obtain ⟨m, rfl⟩ := Int.eq_ofNat_of_zero_le (show 0 ≤ n by omega)
    have hm1 : 1 ≤ m := by omega
    have hm8 : m ≤ 8 := by omega
    have g1 : decide ((g : Int) < 0) = false := by simp
    have g2 : decide ((m : Int) < 1) = false := by simp; omega
    have g3 : decide ((8 : Int) < (m : Int)) = false := by simp; omega
    have HBAD : Hid (¬ ((g : Int) < 0 ∨ (m : Int) < 1 ∨ 8 < (m : Int))) := Lib.hid hbad
    clear hbad
    go_enter Try.func85, Try.ntmps85
    go_wp2_with fail
    go_loopw [10, 11] (fun vi _ wr => ∃ k : Nat, k ≤ m ∧ vi = .int .i64 k ∧ wr.cell? ⟨w.heap.size, 0, none⟩ = some (.int .i64 c) ∧ wr.cell? ⟨w.heap.size, 1, none⟩ = some (.int .i64 v) ∧ Hid (Below w.heap.size w wr) ∧ Hid (∀ (j : Nat), j < k → ¬ Rd.Unheard m c v g l j)) (fun vi _ _ => m - (intOf vi).toNat)
    case atStart => exact ⟨0, by omega, rfl, by go_simp, by go_simp, Lib.hid (Kit.alloc1 ..), Lib.hid (fun j h => absurd h (by omega))⟩
    case round =>
      obtain ⟨k, hk, rfl, c0, c1, HB, HA⟩ := hrel
      by_cases hlt : k < m
      · go_wp2_with fail
        go_loopw [11] (fun vj wr => ∃ j : Nat, (j ≤ len + 1) ∧ vj = .int .i64 j ∧ (wr.cell? ⟨w.heap.size, 0, none⟩ = some (.int .i64 c) ∧ wr.cell? ⟨w.heap.size, 1, none⟩ = some (.int .i64 v)) ∧ Hid (Below w.heap.size w wr) ∧ Hid (∀ i : Nat, i < j → i + m ≤ len → ¬ (Vw.fnode c v k = false ∧ (g : Int) < (i : Int) ∧ Rd.Quiet m c v k l i))) (fun vj _ => len + 1 - (intOf vj).toNat)
        case atStart => exact ⟨0, by omega, rfl, ⟨c0, c1⟩, HB, Lib.hid (fun i h => absurd h (by omega))⟩
        case round =>
          clear c0 c1 HB
          obtain ⟨j, hj, rfl, ⟨c0, c1⟩, HB, HJ⟩ := hrel
          by_cases hjm : j + m ≤ len
          · have gj : decide ((j : Int) + (m : Int) ≤ (len : Int)) = true := by simp; omega
            obtain ⟨b, off, rfl, hb, _⟩ := HL.out.row (by omega)
            by_cases hgj : g < j
            · have gd : decide ((g : Int) < (j : Int)) = true := by simp; omega
              have gn : decide (g < j) = true := decide_eq_true hgj
              have cf : ∀ W, Calls Try.prog 94 #[.agg #[.int .i64 c, .int .i64 v], .int .i64 (k : Int)] W fun e w' => e = .returned (.bool (Vw.fnode c v k)) ∧ Below W.heap.size W w' := fun W => Vw.rnode_calls c v k W
              rcases Bool.eq_false_or_eq_true (Vw.fnode c v k) with hq | hq
              · have HJ2 : Hid (∀ i : Nat, i < j + 1 → i + m ≤ len → ¬ (Vw.fnode c v k = false ∧ (g : Int) < (i : Int) ∧ Rd.Quiet m c v k l i)) := Lib.hid (fun i hi _ h => by rw [hq] at h; cases h.1)
                rw [hq] at cf
                clear hq
                go_wp2_with fail
                refine wp_region_held_drew (S := (fun w' => w'.cell? ⟨w.heap.size, 0, none⟩ = some (.int .i64 c) ∧ w'.cell? ⟨w.heap.size, 1, none⟩ = some (.int .i64 v))) (by kernel_rfl) ?_ (fun hHeld => ?_)
                · go_keep
                refine Rgn.take 0 (v := ?_) rfl (by kernel_rfl) (by kernel_rfl) (by kernel_rfl) (fun _ _ _ h => h) (by kernel_rfl) ?_ (by assumption) ?_
                rotate_left
                · intro w hSw
                  (try dsimp only at hSw)
                  go_simp
                  try with_reducible rfl
                try simp only [Act.put, List.setIfInBounds_toArray, List.set_cons_zero, List.set_cons_succ]
                refine Rgn.take 1 (v := ?_) rfl (by kernel_rfl) (by kernel_rfl) (by kernel_rfl) (fun _ _ _ h => h) (by kernel_rfl) ?_ (by assumption) ?_
                rotate_left
                · intro w hSw
                  (try dsimp only at hSw)
                  go_simp
                  try with_reducible rfl
                try simp only [Act.put, List.setIfInBounds_toArray, List.set_cons_zero, List.set_cons_succ]
                refine Rgn.take 2 (v := ?_) rfl (by kernel_rfl) (by kernel_rfl) (by kernel_rfl) (fun _ _ _ h => h) (by kernel_rfl) ?_ (by assumption) ?_
                rotate_left
                · intro w hSw
                  (try dsimp only at hSw)
                  go_simp
                  try with_reducible rfl
                try simp only [Act.put, List.setIfInBounds_toArray, List.set_cons_zero, List.set_cons_succ]
                refine Rgn.take 3 (v := ?_) rfl (by kernel_rfl) (by kernel_rfl) (by kernel_rfl) (fun _ _ _ h => h) (by kernel_rfl) ?_ (by assumption) ?_
                rotate_left
                · intro w hSw
                  (try dsimp only at hSw)
                  go_simp
                  try with_reducible rfl
                try simp only [Act.put, List.setIfInBounds_toArray, List.set_cons_zero, List.set_cons_succ]
                refine Rgn.take 4 (v := ?_) rfl (by kernel_rfl) (by kernel_rfl) (by kernel_rfl) (fun _ _ _ h => h) (by kernel_rfl) ?_ (by assumption) ?_
                rotate_left
                · intro w hSw
                  (try dsimp only at hSw)
                  go_simp
                  try with_reducible rfl
                try simp only [Act.put, List.setIfInBounds_toArray, List.set_cons_zero, List.set_cons_succ]
                refine Rgn.take 5 (v := ?_) rfl (by kernel_rfl) (by kernel_rfl) (by kernel_rfl) (fun _ _ _ h => h) (by kernel_rfl) ?_ (by assumption) ?_
                rotate_left
                · intro w hSw
                  (try dsimp only at hSw)
                  go_simp
                  try with_reducible rfl
                try simp only [Act.put, List.setIfInBounds_toArray, List.set_cons_zero, List.set_cons_succ]
                refine Rgn.one 6 rfl (by kernel_rfl) (fun K hK => ?_)
                go_simp
                refine (cf _).mono ?_
                rintro e wq ⟨rfl, bq⟩
                replace c0 := Kit.cell_below bq c0
                replace c1 := Kit.cell_below bq c1
                have B1 := Lib.hid (HB.out.drew.trans (bq.mono HB.out.drew.size))
                clear bq
                go_simp
                refine hK.out _ _ ?_ (fun hHeld => ?_)
                · go_keep
                clear hK K
                try simp only [Act.put, List.setIfInBounds_toArray, List.set_cons_zero, List.set_cons_succ]
                refine Rgn.take 7 (v := ?_) rfl (by kernel_rfl) (by kernel_rfl) (by kernel_rfl) (fun _ _ _ h => h) (by kernel_rfl) ?_ (by assumption) ?_
                rotate_left
                · intro w hSw
                  (try dsimp only at hSw)
                  go_simp
                  try with_reducible rfl
                try simp only [Act.put, List.setIfInBounds_toArray, List.set_cons_zero, List.set_cons_succ]
                refine Rgn.take 8 (v := ?_) rfl (by kernel_rfl) (by kernel_rfl) (by kernel_rfl) (fun _ _ _ h => h) (by kernel_rfl) ?_ (by assumption) ?_
                rotate_left
                · intro w hSw
                  (try dsimp only at hSw)
                  go_simp
                  try with_reducible rfl
                try simp only [Act.put, List.setIfInBounds_toArray, List.set_cons_zero, List.set_cons_succ]
                refine Rgn.take 9 (v := ?_) rfl (by kernel_rfl) (by kernel_rfl) (by kernel_rfl) (fun _ _ _ h => h) (by kernel_rfl) ?_ (by assumption) ?_
                rotate_left
                · intro w hSw
                  (try dsimp only at hSw)
                  go_simp
                  try with_reducible rfl
                try simp only [Act.put, List.setIfInBounds_toArray, List.set_cons_zero, List.set_cons_succ]
                refine Rgn.skip 10 rfl (by kernel_rfl) (by kernel_rfl) (by kernel_rfl) (fun _ _ _ h => h) (by kernel_rfl) (by assumption) ?_
                try simp only [Act.put, List.setIfInBounds_toArray, List.set_cons_zero, List.set_cons_succ]
                refine Rgn.skip 11 rfl (by kernel_rfl) (by kernel_rfl) (by kernel_rfl) (fun _ _ _ h => h) (by kernel_rfl) (by assumption) ?_
                try simp only [Act.put, List.setIfInBounds_toArray, List.set_cons_zero, List.set_cons_succ]
                refine Rgn.skip 12 rfl (by kernel_rfl) (by kernel_rfl) (by kernel_rfl) (fun _ _ _ h => h) (by kernel_rfl) (by assumption) ?_
                try simp only [Act.put, List.setIfInBounds_toArray, List.set_cons_zero, List.set_cons_succ]
                refine Rgn.skip 13 rfl (by kernel_rfl) (by kernel_rfl) (by kernel_rfl) (fun _ _ _ h => h) (by kernel_rfl) (by assumption) ?_
                try simp only [Act.put, List.setIfInBounds_toArray, List.set_cons_zero, List.set_cons_succ]
                refine Rgn.skip 14 rfl (by kernel_rfl) (by kernel_rfl) (by kernel_rfl) (fun _ _ _ h => h) (by kernel_rfl) (by assumption) ?_
                try simp only [Act.put, List.setIfInBounds_toArray, List.set_cons_zero, List.set_cons_succ]
                refine Rgn.skip 15 rfl (by kernel_rfl) (by kernel_rfl) (by kernel_rfl) (fun _ _ _ h => h) (by kernel_rfl) (by assumption) ?_
                try simp only [Act.put, List.setIfInBounds_toArray, List.set_cons_zero, List.set_cons_succ]
                refine Rgn.skip 16 rfl (by kernel_rfl) (by kernel_rfl) (by kernel_rfl) (fun _ _ _ h => h) (by kernel_rfl) (by assumption) ?_
                try simp only [Act.put, List.setIfInBounds_toArray, List.set_cons_zero, List.set_cons_succ]
                refine Rgn.skip 17 rfl (by kernel_rfl) (by kernel_rfl) (by kernel_rfl) (fun _ _ _ h => h) (by kernel_rfl) (by assumption) ?_
                try simp only [Act.put, List.setIfInBounds_toArray, List.set_cons_zero, List.set_cons_succ]
                refine Rgn.skip 18 rfl (by kernel_rfl) (by kernel_rfl) (by kernel_rfl) (fun _ _ _ h => h) (by kernel_rfl) (by assumption) ?_
                try simp only [Act.put, List.setIfInBounds_toArray, List.set_cons_zero, List.set_cons_succ]
                refine Rgn.skip 19 rfl (by kernel_rfl) (by kernel_rfl) (by kernel_rfl) (fun _ _ _ h => h) (by kernel_rfl) (by assumption) ?_
                try simp only [Act.put, List.setIfInBounds_toArray, List.set_cons_zero, List.set_cons_succ]
                refine Rgn.take 20 (v := ?_) rfl (by kernel_rfl) (by kernel_rfl) (by kernel_rfl) (fun _ _ _ h => h) (by kernel_rfl) ?_ (by assumption) ?_
                rotate_left
                · intro w hSw
                  (try dsimp only at hSw)
                  go_simp
                  try with_reducible rfl
                try simp only [Act.put, List.setIfInBounds_toArray, List.set_cons_zero, List.set_cons_succ]
                refine wpAnyH_done (by kernel_rfl) ?_ _
                go_wp2_with fail
                go_roundw
                case rel => exact ⟨j + 1, by omega, by go_num, ⟨c0, c1⟩, B1, HJ2⟩
                case measure => simp [intOf]; omega
              · rw [hq] at cf
                have HQ := Lib.hid hq
                have kh := fun W (hW : Below w.heap.size w W) => Rd.rsome_calls c v k (some ⟨b, off + j * 6, none⟩) m (cap - j) ((l.drop j).take m) W (((HL.out.drop (by omega)).take (by omega)).below hW) (by omega)
                have KH := Lib.hid kh
                clear hq kh
                have q0 : (0 : Int) ≤ (j : Int) := by omega
                have q1 : (j : Int) ≤ (j : Int) + (m : Int) := by omega
                have q2 : (j : Int) + (m : Int) ≤ (cap : Int) := by omega
                have q3 : ¬ cap = j := by omega
                have q4 : ((j : Int) + (m : Int)).toNat = j + m := by omega
                have q5 : j + m - j = m := by omega
                have sw : IntKind.i64.wrap ((j : Int) + (m : Int)) = (j : Int) + (m : Int) := IntWalk.i64_in _ (by omega)
                have SW := Lib.hid (And.intro q4 (And.intro q5 sw))
                clear q4 q5 sw
                have HW : Hid ((∃ i, i < ((l.drop j).take m).length ∧ Rd.saysAt c v k ((l.drop j).take m) i = true) ↔ ¬ Rd.Quiet m c v k l j) := Lib.hid (by
                  have h1 : ((l.drop j).take m).length = m := by rw [List.length_take, List.length_drop, HLL.out]; omega
                  have h2 : ∀ i, i < m → Rd.saysAt c v k ((l.drop j).take m) i = Rd.saysAt c v k l (j + i) := fun i hi => by
                    unfold Rd.saysAt
                    rw [List.getD_eq_getElem?_getD, List.getD_eq_getElem?_getD, List.getElem?_take_of_lt hi, List.getElem?_drop]
                  rw [h1]
                  constructor
                  · rintro ⟨i, hi, hs⟩ hq
                    rw [h2 i hi, hq (j + i) (by omega) (by omega)] at hs
                    cases hs
                  · intro hq
                    refine Classical.byContradiction fun hno => hq fun i h3 h4 => ?_
                    cases hs : Rd.saysAt c v k l i with
                    | false => rfl
                    | true => exact absurd ⟨i - j, by omega, by rw [h2 _ (by omega), show j + (i - j) = i by omega]; exact hs⟩ hno)
                go_wp2_with fail
                obtain ⟨q4, q5, sw⟩ := SW.out
                refine wp_region_held_drew (S := (fun w' => w'.cell? ⟨w.heap.size, 0, none⟩ = some (.int .i64 c) ∧ w'.cell? ⟨w.heap.size, 1, none⟩ = some (.int .i64 v))) (by kernel_rfl) ?_ (fun hHeld => ?_)
                · go_keep
                refine Rgn.take 0 (v := ?_) rfl (by kernel_rfl) (by kernel_rfl) (by kernel_rfl) (fun _ _ _ h => h) (by kernel_rfl) ?_ (by assumption) ?_
                rotate_left
                · intro w hSw
                  (try dsimp only at hSw)
                  go_simp
                  try with_reducible rfl
                try simp only [Act.put, List.setIfInBounds_toArray, List.set_cons_zero, List.set_cons_succ]
                refine Rgn.take 1 (v := ?_) rfl (by kernel_rfl) (by kernel_rfl) (by kernel_rfl) (fun _ _ _ h => h) (by kernel_rfl) ?_ (by assumption) ?_
                rotate_left
                · intro w hSw
                  (try dsimp only at hSw)
                  go_simp
                  try with_reducible rfl
                try simp only [Act.put, List.setIfInBounds_toArray, List.set_cons_zero, List.set_cons_succ]
                refine Rgn.take 2 (v := ?_) rfl (by kernel_rfl) (by kernel_rfl) (by kernel_rfl) (fun _ _ _ h => h) (by kernel_rfl) ?_ (by assumption) ?_
                rotate_left
                · intro w hSw
                  (try dsimp only at hSw)
                  go_simp
                  try with_reducible rfl
                try simp only [Act.put, List.setIfInBounds_toArray, List.set_cons_zero, List.set_cons_succ]
                refine Rgn.take 3 (v := ?_) rfl (by kernel_rfl) (by kernel_rfl) (by kernel_rfl) (fun _ _ _ h => h) (by kernel_rfl) ?_ (by assumption) ?_
                rotate_left
                · intro w hSw
                  (try dsimp only at hSw)
                  go_simp
                  try with_reducible rfl
                try simp only [Act.put, List.setIfInBounds_toArray, List.set_cons_zero, List.set_cons_succ]
                refine Rgn.take 4 (v := ?_) rfl (by kernel_rfl) (by kernel_rfl) (by kernel_rfl) (fun _ _ _ h => h) (by kernel_rfl) ?_ (by assumption) ?_
                rotate_left
                · intro w hSw
                  (try dsimp only at hSw)
                  go_simp
                  try with_reducible rfl
                try simp only [Act.put, List.setIfInBounds_toArray, List.set_cons_zero, List.set_cons_succ]
                refine Rgn.take 5 (v := ?_) rfl (by kernel_rfl) (by kernel_rfl) (by kernel_rfl) (fun _ _ _ h => h) (by kernel_rfl) ?_ (by assumption) ?_
                rotate_left
                · intro w hSw
                  (try dsimp only at hSw)
                  go_simp
                  try with_reducible rfl
                try simp only [Act.put, List.setIfInBounds_toArray, List.set_cons_zero, List.set_cons_succ]
                refine Rgn.one 6 rfl (by kernel_rfl) (fun K hK => ?_)
                go_simp
                refine (cf _).mono ?_
                rintro e wq ⟨rfl, bq⟩
                replace c0 := Kit.cell_below bq c0
                replace c1 := Kit.cell_below bq c1
                have B1 := Lib.hid (HB.out.drew.trans (bq.mono HB.out.drew.size))
                clear bq
                go_simp
                refine hK.out _ _ ?_ (fun hHeld => ?_)
                · go_keep
                clear hK K
                try simp only [Act.put, List.setIfInBounds_toArray, List.set_cons_zero, List.set_cons_succ]
                refine Rgn.take 7 (v := ?_) rfl (by kernel_rfl) (by kernel_rfl) (by kernel_rfl) (fun _ _ _ h => h) (by kernel_rfl) ?_ (by assumption) ?_
                rotate_left
                · intro w hSw
                  (try dsimp only at hSw)
                  go_simp
                  try with_reducible rfl
                try simp only [Act.put, List.setIfInBounds_toArray, List.set_cons_zero, List.set_cons_succ]
                refine Rgn.take 8 (v := ?_) rfl (by kernel_rfl) (by kernel_rfl) (by kernel_rfl) (fun _ _ _ h => h) (by kernel_rfl) ?_ (by assumption) ?_
                rotate_left
                · intro w hSw
                  (try dsimp only at hSw)
                  go_simp
                  try with_reducible rfl
                try simp only [Act.put, List.setIfInBounds_toArray, List.set_cons_zero, List.set_cons_succ]
                refine Rgn.take 9 (v := ?_) rfl (by kernel_rfl) (by kernel_rfl) (by kernel_rfl) (fun _ _ _ h => h) (by kernel_rfl) ?_ (by assumption) ?_
                rotate_left
                · intro w hSw
                  (try dsimp only at hSw)
                  go_simp
                  try with_reducible rfl
                try simp only [Act.put, List.setIfInBounds_toArray, List.set_cons_zero, List.set_cons_succ]
                refine Rgn.take 10 (v := ?_) rfl (by kernel_rfl) (by kernel_rfl) (by kernel_rfl) (fun _ _ _ h => h) (by kernel_rfl) ?_ (by assumption) ?_
                rotate_left
                · intro w hSw
                  (try dsimp only at hSw)
                  go_simp
                  try with_reducible rfl
                try simp only [Act.put, List.setIfInBounds_toArray, List.set_cons_zero, List.set_cons_succ]
                refine Rgn.take 11 (v := ?_) rfl (by kernel_rfl) (by kernel_rfl) (by kernel_rfl) (fun _ _ _ h => h) (by kernel_rfl) ?_ (by assumption) ?_
                rotate_left
                · intro w hSw
                  (try dsimp only at hSw)
                  go_simp
                  try with_reducible rfl
                try simp only [Act.put, List.setIfInBounds_toArray, List.set_cons_zero, List.set_cons_succ]
                refine Rgn.take 12 (v := ?_) rfl (by kernel_rfl) (by kernel_rfl) (by kernel_rfl) (fun _ _ _ h => h) (by kernel_rfl) ?_ (by assumption) ?_
                rotate_left
                · intro w hSw
                  (try dsimp only at hSw)
                  go_simp
                  try with_reducible rfl
                try simp only [Act.put, List.setIfInBounds_toArray, List.set_cons_zero, List.set_cons_succ]
                refine Rgn.take 13 (v := ?_) rfl (by kernel_rfl) (by kernel_rfl) (by kernel_rfl) (fun _ _ _ h => h) (by kernel_rfl) ?_ (by assumption) ?_
                rotate_left
                · intro w hSw
                  (try dsimp only at hSw)
                  go_simp
                  try with_reducible rfl
                try simp only [Act.put, List.setIfInBounds_toArray, List.set_cons_zero, List.set_cons_succ]
                refine Rgn.take 14 (v := ?_) rfl (by kernel_rfl) (by kernel_rfl) (by kernel_rfl) (fun _ _ _ h => h) (by kernel_rfl) ?_ (by assumption) ?_
                rotate_left
                · intro w hSw
                  (try dsimp only at hSw)
                  go_simp
                  try with_reducible rfl
                try simp only [Act.put, List.setIfInBounds_toArray, List.set_cons_zero, List.set_cons_succ]
                refine Rgn.take 15 (v := ?_) rfl (by kernel_rfl) (by kernel_rfl) (by kernel_rfl) (fun _ _ _ h => h) (by kernel_rfl) ?_ (by assumption) ?_
                rotate_left
                · intro w hSw
                  (try dsimp only at hSw)
                  go_simp
                  try with_reducible rfl
                try simp only [Act.put, List.setIfInBounds_toArray, List.set_cons_zero, List.set_cons_succ]
                refine Rgn.take 16 (v := ?_) rfl (by kernel_rfl) (by kernel_rfl) (by kernel_rfl) (fun _ _ _ h => h) (by kernel_rfl) ?_ (by assumption) ?_
                rotate_left
                · intro w hSw
                  (try dsimp only at hSw)
                  go_simp
                  try with_reducible rfl
                try simp only [Act.put, List.setIfInBounds_toArray, List.set_cons_zero, List.set_cons_succ]
                refine Rgn.take 17 (v := ?_) rfl (by kernel_rfl) (by kernel_rfl) (by kernel_rfl) (fun _ _ _ h => h) (by kernel_rfl) ?_ (by assumption) ?_
                rotate_left
                · intro w hSw
                  (try dsimp only at hSw)
                  go_simp
                  try with_reducible rfl
                try simp only [Act.put, List.setIfInBounds_toArray, List.set_cons_zero, List.set_cons_succ]
                refine Rgn.one 18 rfl (by kernel_rfl) (fun K hK => ?_)
                go_simp
                refine (KH.out _ B1.out).mono ?_
                rintro e wp ⟨bb, rfl, hbb, bp⟩
                replace c0 := Kit.cell_below bp c0
                replace c1 := Kit.cell_below bp c1
                have B2 := Lib.hid (Kit.chain B1.out bp)
                have HBB := Lib.hid hbb
                clear bp hbb
                go_simp
                refine hK.out _ _ ?_ (fun hHeld => ?_)
                · go_keep
                clear hK K
                try simp only [Act.put, List.setIfInBounds_toArray, List.set_cons_zero, List.set_cons_succ]
                refine Rgn.take 19 (v := ?_) rfl (by kernel_rfl) (by kernel_rfl) (by kernel_rfl) (fun _ _ _ h => h) (by kernel_rfl) ?_ (by assumption) ?_
                rotate_left
                · intro w hSw
                  (try dsimp only at hSw)
                  go_simp
                  try with_reducible rfl
                try simp only [Act.put, List.setIfInBounds_toArray, List.set_cons_zero, List.set_cons_succ]
                refine Rgn.take 20 (v := ?_) rfl (by kernel_rfl) (by kernel_rfl) (by kernel_rfl) (fun _ _ _ h => h) (by kernel_rfl) ?_ (by assumption) ?_
                rotate_left
                · intro w hSw
                  (try dsimp only at hSw)
                  go_simp
                  try with_reducible rfl
                try simp only [Act.put, List.setIfInBounds_toArray, List.set_cons_zero, List.set_cons_succ]
                refine wpAnyH_done (by kernel_rfl) ?_ _
                clear q4 q5 sw
                cases bb with
                | true =>
                  have HJ2 : Hid (∀ i : Nat, i < j + 1 → i + m ≤ len → ¬ (Vw.fnode c v k = false ∧ (g : Int) < (i : Int) ∧ Rd.Quiet m c v k l i)) := Lib.hid (fun i hi him h => by
                    by_cases e : i = j
                    · subst e; exact HW.out.1 (HBB.out.1 rfl) h.2.2
                    · exact HJ.out i (by omega) him h)
                  go_wp2_with fail
                  go_roundw
                  case rel => exact ⟨j + 1, by omega, by go_num, ⟨c0, c1⟩, B2, HJ2⟩
                  case measure => simp [intOf]; omega
                | false =>
                  have HI : Hid (Rd.IsHeard (m : Int) c v g l (some k)) := Lib.hid ⟨fun h => absurd h HBAD.out, fun id _ => by
                    have hqq : Rd.Quiet m c v k l j := Classical.byContradiction fun h => by have h1 := HBB.out.2 (HW.out.2 h); cases h1
                    have hun : Rd.Unheard m c v g l k := ⟨HQ.out, j, by omega, by rw [HLL.out]; exact hjm, hqq⟩
                    rw [Int.toNat_natCast]
                    constructor
                    · intro h; injection h with h; subst h; exact ⟨hlt, hun, HA.out⟩
                    · rintro ⟨h1, h2, h3⟩
                      rcases Nat.lt_trichotomy k id with h | h | h
                      · exact absurd hun (h3 k h)
                      · rw [h]
                      · exact absurd h2 (HA.out id h)⟩
                  go_wp2_with fail
                  go_ret2
                  exact ⟨some k, HI.out, rfl, B2.out⟩
            · have gd : decide ((g : Int) < (j : Int)) = false := by simp; omega
              have gn : decide (g < j) = false := decide_eq_false hgj
              have HJ2 : Hid (∀ i : Nat, i < j + 1 → i + m ≤ len → ¬ (Vw.fnode c v k = false ∧ (g : Int) < (i : Int) ∧ Rd.Quiet m c v k l i)) := Lib.hid (fun i hi him h => by
                by_cases e : i = j
                · have := h.2.1; omega
                · exact HJ.out i (by omega) him h)
              go_wp2_with fail
              refine wp_region_held_drew (S := (fun w' => w'.cell? ⟨w.heap.size, 0, none⟩ = some (.int .i64 c) ∧ w'.cell? ⟨w.heap.size, 1, none⟩ = some (.int .i64 v))) (by kernel_rfl) ?_ (fun hHeld => ?_)
              · go_keep
              refine Rgn.take 0 (v := ?_) rfl (by kernel_rfl) (by kernel_rfl) (by kernel_rfl) (fun _ _ _ h => h) (by kernel_rfl) ?_ (by assumption) ?_
              rotate_left
              · intro w hSw
                (try dsimp only at hSw)
                go_simp
                try with_reducible rfl
              try simp only [Act.put, List.setIfInBounds_toArray, List.set_cons_zero, List.set_cons_succ]
              refine Rgn.take 1 (v := ?_) rfl (by kernel_rfl) (by kernel_rfl) (by kernel_rfl) (fun _ _ _ h => h) (by kernel_rfl) ?_ (by assumption) ?_
              rotate_left
              · intro w hSw
                (try dsimp only at hSw)
                go_simp
                try with_reducible rfl
              try simp only [Act.put, List.setIfInBounds_toArray, List.set_cons_zero, List.set_cons_succ]
              refine Rgn.take 2 (v := ?_) rfl (by kernel_rfl) (by kernel_rfl) (by kernel_rfl) (fun _ _ _ h => h) (by kernel_rfl) ?_ (by assumption) ?_
              rotate_left
              · intro w hSw
                (try dsimp only at hSw)
                go_simp
                try with_reducible rfl
              try simp only [Act.put, List.setIfInBounds_toArray, List.set_cons_zero, List.set_cons_succ]
              refine Rgn.take 3 (v := ?_) rfl (by kernel_rfl) (by kernel_rfl) (by kernel_rfl) (fun _ _ _ h => h) (by kernel_rfl) ?_ (by assumption) ?_
              rotate_left
              · intro w hSw
                (try dsimp only at hSw)
                go_simp
                try with_reducible rfl
              try simp only [Act.put, List.setIfInBounds_toArray, List.set_cons_zero, List.set_cons_succ]
              refine Rgn.skip 4 rfl (by kernel_rfl) (by kernel_rfl) (by kernel_rfl) (fun _ _ _ h => h) (by kernel_rfl) (by assumption) ?_
              try simp only [Act.put, List.setIfInBounds_toArray, List.set_cons_zero, List.set_cons_succ]
              refine Rgn.skip 5 rfl (by kernel_rfl) (by kernel_rfl) (by kernel_rfl) (fun _ _ _ h => h) (by kernel_rfl) (by assumption) ?_
              try simp only [Act.put, List.setIfInBounds_toArray, List.set_cons_zero, List.set_cons_succ]
              refine Rgn.skip 6 rfl (by kernel_rfl) (by kernel_rfl) (by kernel_rfl) (fun _ _ _ h => h) (by kernel_rfl) (by assumption) ?_
              try simp only [Act.put, List.setIfInBounds_toArray, List.set_cons_zero, List.set_cons_succ]
              refine Rgn.skip 7 rfl (by kernel_rfl) (by kernel_rfl) (by kernel_rfl) (fun _ _ _ h => h) (by kernel_rfl) (by assumption) ?_
              try simp only [Act.put, List.setIfInBounds_toArray, List.set_cons_zero, List.set_cons_succ]
              refine Rgn.take 8 (v := ?_) rfl (by kernel_rfl) (by kernel_rfl) (by kernel_rfl) (fun _ _ _ h => h) (by kernel_rfl) ?_ (by assumption) ?_
              rotate_left
              · intro w hSw
                (try dsimp only at hSw)
                go_simp
                try with_reducible rfl
              try simp only [Act.put, List.setIfInBounds_toArray, List.set_cons_zero, List.set_cons_succ]
              refine Rgn.take 9 (v := ?_) rfl (by kernel_rfl) (by kernel_rfl) (by kernel_rfl) (fun _ _ _ h => h) (by kernel_rfl) ?_ (by assumption) ?_
              rotate_left
              · intro w hSw
                (try dsimp only at hSw)
                go_simp
                try with_reducible rfl
              try simp only [Act.put, List.setIfInBounds_toArray, List.set_cons_zero, List.set_cons_succ]
              refine Rgn.skip 10 rfl (by kernel_rfl) (by kernel_rfl) (by kernel_rfl) (fun _ _ _ h => h) (by kernel_rfl) (by assumption) ?_
              try simp only [Act.put, List.setIfInBounds_toArray, List.set_cons_zero, List.set_cons_succ]
              refine Rgn.skip 11 rfl (by kernel_rfl) (by kernel_rfl) (by kernel_rfl) (fun _ _ _ h => h) (by kernel_rfl) (by assumption) ?_
              try simp only [Act.put, List.setIfInBounds_toArray, List.set_cons_zero, List.set_cons_succ]
              refine Rgn.skip 12 rfl (by kernel_rfl) (by kernel_rfl) (by kernel_rfl) (fun _ _ _ h => h) (by kernel_rfl) (by assumption) ?_
              try simp only [Act.put, List.setIfInBounds_toArray, List.set_cons_zero, List.set_cons_succ]
              refine Rgn.skip 13 rfl (by kernel_rfl) (by kernel_rfl) (by kernel_rfl) (fun _ _ _ h => h) (by kernel_rfl) (by assumption) ?_
              try simp only [Act.put, List.setIfInBounds_toArray, List.set_cons_zero, List.set_cons_succ]
              refine Rgn.skip 14 rfl (by kernel_rfl) (by kernel_rfl) (by kernel_rfl) (fun _ _ _ h => h) (by kernel_rfl) (by assumption) ?_
              try simp only [Act.put, List.setIfInBounds_toArray, List.set_cons_zero, List.set_cons_succ]
              refine Rgn.skip 15 rfl (by kernel_rfl) (by kernel_rfl) (by kernel_rfl) (fun _ _ _ h => h) (by kernel_rfl) (by assumption) ?_
              try simp only [Act.put, List.setIfInBounds_toArray, List.set_cons_zero, List.set_cons_succ]
              refine Rgn.skip 16 rfl (by kernel_rfl) (by kernel_rfl) (by kernel_rfl) (fun _ _ _ h => h) (by kernel_rfl) (by assumption) ?_
              try simp only [Act.put, List.setIfInBounds_toArray, List.set_cons_zero, List.set_cons_succ]
              refine Rgn.skip 17 rfl (by kernel_rfl) (by kernel_rfl) (by kernel_rfl) (fun _ _ _ h => h) (by kernel_rfl) (by assumption) ?_
              try simp only [Act.put, List.setIfInBounds_toArray, List.set_cons_zero, List.set_cons_succ]
              refine Rgn.skip 18 rfl (by kernel_rfl) (by kernel_rfl) (by kernel_rfl) (fun _ _ _ h => h) (by kernel_rfl) (by assumption) ?_
              try simp only [Act.put, List.setIfInBounds_toArray, List.set_cons_zero, List.set_cons_succ]
              refine Rgn.skip 19 rfl (by kernel_rfl) (by kernel_rfl) (by kernel_rfl) (fun _ _ _ h => h) (by kernel_rfl) (by assumption) ?_
              try simp only [Act.put, List.setIfInBounds_toArray, List.set_cons_zero, List.set_cons_succ]
              refine Rgn.take 20 (v := ?_) rfl (by kernel_rfl) (by kernel_rfl) (by kernel_rfl) (fun _ _ _ h => h) (by kernel_rfl) ?_ (by assumption) ?_
              rotate_left
              · intro w hSw
                (try dsimp only at hSw)
                go_simp
                try with_reducible rfl
              try simp only [Act.put, List.setIfInBounds_toArray, List.set_cons_zero, List.set_cons_succ]
              refine wpAnyH_done (by kernel_rfl) ?_ _
              have B1 := Lib.hid HB.out.drew
              go_wp2_with fail
              go_roundw
              case rel => exact ⟨j + 1, by omega, by go_num, ⟨c0, c1⟩, B1, HJ2⟩
              case measure => simp [intOf]; omega
          · have gj : decide ((j : Int) + (m : Int) ≤ (len : Int)) = false := by simp; omega
            have HA2 : Hid (∀ (j : Nat), j < k + 1 → ¬ Rd.Unheard m c v g l j) := Lib.hid (fun i hi => by
              by_cases e : i = k
              · subst e
                rintro ⟨h1, i2, h2, h3, h4⟩
                rw [HLL.out] at h3
                exact HJ.out i2 (by omega) h3 ⟨h1, h2, h4⟩
              · exact HA.out i (by omega))
            go_wp2_with fail
            go_roundw
            case rel => exact ⟨k + 1, by omega, by go_num, c0, c1, HB, HA2⟩
            case measure => simp [intOf]; omega
      · obtain rfl : k = m := by omega
        have HI : Hid (Rd.IsHeard (k : Int) c v g l none) := Lib.hid ⟨fun _ => rfl, fun id _ => by
          rw [Int.toNat_natCast]
          constructor
          · intro h; cases h
          · rintro ⟨h1, h2, _⟩; exact absurd h2 (HA.out id h1)⟩
        go_wp2_with fail
        go_ret2
        exact ⟨none, HI.out, rfl, HB.out⟩
end Go.Proofs.Ytpbkoooljelhjaa
