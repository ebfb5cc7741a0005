/-
  The walks of package port, first part: what may be asked, how many nodes may be, and whether two lists are the same.
-/
import Derived.Test.YtpbkoooljelhjaaPort0
import Derived.Test.YtpbkoooljelhjaaKit2
import Derived.Test.YtpbkoooljelhjaaCrc1
import Derived.Test.YtpbkoooljelhjaaProg
import Derived.BigRegion
namespace Go.Proofs.Ytpbkoooljelhjaa
set_option linter.unusedVariables false
set_option linter.unusedSimpArgs false
open Go.RowKit

set_option maxHeartbeats 400000 in
set_option maxRecDepth 100000 in
theorem Port.conf_calls (n : Int) (w : World) :
    Calls Try.prog 95 #[.int .i64 n] w fun e w' => e = .returned (.bool (decide (3 ≤ n) && decide (n ≤ 8))) ∧ w = w' := by
  by_cases h : 3 ≤ n
  · have h' : decide (3 ≤ n) = true := decide_eq_true h
    rw [h']
    clear h'
    go_enter Try.func95, Try.ntmps95
    go_wp2_with fail
    go_ret
    exact ⟨rfl, rfl⟩
  · have h' : decide (3 ≤ n) = false := decide_eq_false h
    have h2 : n < 3 := by omega
    rw [h']
    clear h'
    go_enter Try.func95, Try.ntmps95
    go_wp2_with fail
    go_ret
    exact ⟨rfl, rfl⟩

set_option maxHeartbeats 400000 in
set_option maxRecDepth 100000 in
theorem Port.rconf_calls (n : Int) (w : World) :
    Calls Try.prog 96 #[.int .i64 n] w fun e w' => e = .returned (.bool (decide (3 ≤ n) && decide (n ≤ 8))) ∧ w = w' := by
  by_cases h : 3 ≤ n
  · have h' : decide (3 ≤ n) = true := decide_eq_true h
    rw [h']
    clear h'
    go_enter Try.func96, Try.ntmps96
    go_wp2_with fail
    go_ret
    exact ⟨rfl, rfl⟩
  · have h' : decide (3 ≤ n) = false := decide_eq_false h
    have h2 : n < 3 := by omega
    rw [h']
    clear h'
    go_enter Try.func96, Try.ntmps96
    go_wp2_with fail
    go_ret
    exact ⟨rfl, rfl⟩

set_option maxHeartbeats 1000000 in
set_option maxRecDepth 100000 in
/-- Few bytes, for few ports? -/
theorem Port.short_calls (A : Option Addr) (n cap : Nat) (l : List ByteArray) (w : World) (hl : Strs w A n l) (hn : n ≤ 9223372036854775807) :
    Calls Try.prog 51 #[.slice A n cap] w fun e w' => ∃ b : Bool, e = .returned (.bool b) ∧ (b = true → n ≤ 20) ∧ Below w.heap.size w w' := by
  have HL := Lib.hid hl
  clear hl
  go_enter Try.func51, Try.ntmps51
  go_wp2_with fail
  go_loopw [3, 4] (fun vn vi wr => ∃ (k : Nat) (x : Int), k ≤ n ∧ vi = .int .i64 k ∧ vn = .int .i64 x ∧ Hid (Below w.heap.size w wr)) (fun _ vi _ => n - (intOf vi).toNat)
  case atStart => exact ⟨0, 0, by omega, rfl, rfl, Lib.hid (Below.refl _ _)⟩
  case round =>
    obtain ⟨k, x, hk, rfl, rfl, HB⟩ := hrel
    by_cases hlt : k < n
    · obtain ⟨b, off, rfl, hb, hrow⟩ := HL.out.row (by omega)
      have hkl : k < l.length := by rw [HL.out.len]; exact hlt
      obtain ⟨s, hs⟩ : ∃ s, l[k]? = some s := ⟨_, List.getElem?_eq_getElem hkl⟩
      have m0 := (HB.out.cell (p := ⟨b, off + k, none⟩) hb).trans (hrow k s hs)
      clear hrow hs
      go_wp2_with fail
      go_roundw
      case rel => exact ⟨k + 1, _, by omega, by go_num, rfl, HB⟩
      case measure => simp [intOf]; omega
    · obtain rfl : k = n := by omega
      by_cases h20 : k ≤ 20
      · have h1 : decide ((k : Int) ≤ 20) = true := by simp; omega
        go_wp2_with fail
        go_ret
        exact ⟨_, rfl, fun _ => h20, HB.out⟩
      · have h1 : decide ((k : Int) ≤ 20) = false := by simp; omega
        go_wp2_with fail
        go_ret
        exact ⟨false, rfl, by simp, HB.out⟩

theorem Port.fr_eq (x y : Fr) : (x = y) ↔ x.k = y.k ∧ x.i = y.i := by
  obtain ⟨a, b⟩ := x
  obtain ⟨c, d⟩ := y
  simp

set_option maxHeartbeats 1000000 in
set_option maxRecDepth 100000 in
/-- The same ones? -/
theorem Port.rsame_calls (A A2 : Option Addr) (n cap n2 cap2 : Nat) (l m : List Fr) (w : World) (hl : Frames w A n l) (hm : Frames w A2 n2 m) (hn : n ≤ 9223372036854775807) (hn2 : n2 ≤ 9223372036854775807) :
    Calls Try.prog 58 #[.slice A n cap, .slice A2 n2 cap2] w fun e w' => e = .returned (.bool (decide (l = m))) ∧ Below w.heap.size w w' := by
  have HL := Lib.hid hl
  have HM := Lib.hid hm
  have hll := hl.len
  have hml := hm.len
  clear hl hm
  by_cases hnn : n = n2
  · subst hnn
    have HLL := Lib.hid hll
    have HML := Lib.hid hml
    clear hll hml
    generalize hr : decide (l = m) = r
    have HR := Lib.hid hr
    clear hr
    go_enter Try.func58, Try.ntmps58
    go_wp2_with fail
    go_loopw [5] (fun vi wr => ∃ k : Nat, k ≤ n ∧ vi = .int .i64 k ∧ Hid (∀ j, j < k → l[j]? = m[j]?) ∧ Hid (Below w.heap.size w wr)) (fun vi _ => n - (intOf vi).toNat)
    case atStart => exact ⟨0, by omega, rfl, Lib.hid (by intro j hj; omega), Lib.hid (Below.refl _ _)⟩
    case round =>
      obtain ⟨k, hk, rfl, HE, HB⟩ := hrel
      by_cases hlt : k < n
      · obtain ⟨b, off, rfl, hb, hrow⟩ := HL.out.row (by omega)
        obtain ⟨b2, off2, rfl, hb2, hrow2⟩ := HM.out.row (by omega)
        have hkl : k < l.length := by rw [HLL.out]; exact hlt
        have hkm : k < m.length := by rw [HML.out]; exact hlt
        obtain ⟨x, hx⟩ : ∃ x, l[k]? = some x := ⟨_, List.getElem?_eq_getElem hkl⟩
        obtain ⟨y, hy⟩ : ∃ y, m[k]? = some y := ⟨_, List.getElem?_eq_getElem hkm⟩
        obtain ⟨r0, r1⟩ := hrow k x hx
        obtain ⟨q0, q1⟩ := hrow2 k y hy
        have m0 := (HB.out.cell (p := ⟨b, off + k * 2, none⟩) hb).trans r0
        have m1 := (HB.out.cell (p := ⟨b, off + k * 2 + 1, none⟩) hb).trans r1
        have m2 := (HB.out.cell (p := ⟨b2, off2 + k * 2, none⟩) hb2).trans q0
        have m3 := (HB.out.cell (p := ⟨b2, off2 + k * 2 + 1, none⟩) hb2).trans q1
        have HX := Lib.hid hx
        have HY := Lib.hid hy
        clear hrow hrow2 hx hy r0 r1 q0 q1 hkl hkm
        by_cases hxy : x = y
        · have HN : Hid (∀ j, j < k + 1 → l[j]? = m[j]?) := Lib.hid (by
            intro j hj
            by_cases e : j = k
            · subst e; rw [HX.out, HY.out, hxy]
            · exact HE.out j (by omega))
          clear HX HY
          subst hxy
          go_wp2_with fail
          go_quiet (fail)
          go_wp2_with fail
          go_roundw
          case rel => exact ⟨k + 1, by omega, by go_num, HN, Lib.hid (HB.out.trans ((Kit.below_drewN _ _).mono HB.out.size))⟩
          case measure => simp [intOf]; omega
        · have hne : ¬ l = m := fun h => by
            have h1 := HX.out
            rw [h, HY.out] at h1
            exact hxy (Option.some.inj h1).symm
          obtain rfl : r = false := by rw [← HR.out]; exact decide_eq_false hne
          rw [Port.fr_eq] at hxy
          by_cases e1 : x.k = y.k
          · have e2 : (x.i == y.i) = false := by rw [beq_eq_false_iff_ne]; exact fun h => hxy ⟨e1, h⟩
            have e1' : (x.k == y.k) = true := by rw [beq_iff_eq]; exact e1
            go_wp2_with fail
            go_quiet (fail)
            go_wp2_with fail
            go_ret
            exact ⟨rfl, HB.out.trans ((Kit.below_drewN _ _).mono HB.out.size)⟩
          · have e1' : (x.k == y.k) = false := by rw [beq_eq_false_iff_ne]; exact e1
            go_wp2_with fail
            go_quiet (fail)
            go_wp2_with fail
            go_ret
            exact ⟨rfl, HB.out.trans ((Kit.below_drewN _ _).mono HB.out.size)⟩
      · obtain rfl : k = n := by omega
        have he : l = m := by
          apply List.ext_getElem?
          intro j
          by_cases h : j < k
          · exact HE.out j h
          · rw [List.getElem?_eq_none (by rw [HLL.out]; omega), List.getElem?_eq_none (by rw [HML.out]; omega)]
        obtain rfl : r = true := by rw [← HR.out]; exact decide_eq_true he
        go_wp2_with fail
        go_ret
        exact ⟨rfl, HB.out⟩
  · have hne : ¬ l = m := by rintro rfl; omega
    have h1 : ((n : Int) != (n2 : Int)) = true := by rw [bne_iff_ne]; omega
    rw [decide_eq_false hne]
    go_enter Try.func58, Try.ntmps58
    go_wp2_with fail
    go_ret
    exact ⟨rfl, Below.refl _ _⟩
end Go.Proofs.Ytpbkoooljelhjaa
