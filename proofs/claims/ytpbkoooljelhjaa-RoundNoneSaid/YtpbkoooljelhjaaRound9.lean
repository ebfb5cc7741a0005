/-
  The statements' own helpers on looks: few looks, the fixed fact.
-/
import Derived.Test.YtpbkoooljelhjaaRound8
namespace Go.Proofs.Ytpbkoooljelhjaa
set_option linter.unusedVariables false
set_option linter.unusedSimpArgs false
open Go.RowKit

def Rd.MaySays (l : List Lk) (w : World) (e : Ending) (w' : World) : Prop := ∃ b : Bool, e = .returned (.bool b) ∧ (b = true → l.length ≤ 60 ∧ ∀ x ∈ l, x.n ≤ 20) ∧ w = w'

set_option maxHeartbeats 1000000 in
set_option maxRecDepth 100000 in
/-- daybreaklaw22.may. -/
theorem Rd.may_calls (A : Option Addr) (len cap : Nat) (l : List Lk) (w : World) (hl : Looks w A len l) (hlen : len ≤ 9223372036854775807) :
    Calls Try.prog 81 #[.slice A len cap] w (Rd.MaySays l w) := by
  have HL := Lib.hid hl
  have hll := hl.len
  have HLL := Lib.hid hll
  clear hl hll
  by_cases h60 : len ≤ 60
  · have g0 : decide ((60 : Int) < (len : Int)) = false := by simp; omega
    go_enter Try.func81, Try.ntmps81
    go_wp2_with fail
    go_loop [3] (fun vi => ∃ k : Nat, k ≤ len ∧ vi = .int .i64 k ∧ Hid (∀ (j : Nat) (x : Lk), j < k → l[j]? = some x → x.n ≤ 20)) (fun vi => len - (intOf vi).toNat)
    case atStart => exact ⟨0, by omega, rfl, Lib.hid (fun j x h => absurd h (by omega))⟩
    case round =>
      obtain ⟨k, hk, rfl, HA⟩ := hrel
      by_cases hlt : k < len
      · obtain ⟨b, off, rfl, hb, hrow⟩ := HL.out.row (by omega)
        have hkl : k < l.length := by rw [HLL.out]; exact hlt
        obtain ⟨x, hx⟩ : ∃ x, l[k]? = some x := ⟨_, List.getElem?_eq_getElem hkl⟩
        have m5 := (hrow k x hx).2.2.2.2.2
        have HX := Lib.hid hx
        have hxm := (HL.out.there x (List.mem_of_getElem? hx)).most
        clear hrow hx
        obtain ⟨xt, ⟨x0k, x0i⟩, ⟨x1k, x1i⟩, xA, xn, xc, xs⟩ := x
        simp only at m5 hxm
        unfold maxLen at hxm
        by_cases hxn : xn ≤ 20
        · have g1 : decide ((20 : Int) < (xn : Int)) = false := by simp; omega
          have HA2 : Hid (∀ (j : Nat) (x : Lk), j < k + 1 → l[j]? = some x → x.n ≤ 20) := Lib.hid (fun j x hj hx => by
            by_cases e : j = k
            · subst e; rw [HX.out] at hx; injection hx with hx; rw [← hx]; exact hxn
            · exact HA.out j x (by omega) hx)
          go_wp2_with fail
          go_round
          case rel => exact ⟨k + 1, by omega, by go_num, HA2⟩
          case measure => simp [intOf]; omega
        · have g1 : decide ((20 : Int) < (xn : Int)) = true := by simp; omega
          clear hxn
          go_wp2_with fail
          go_ret
          exact ⟨false, rfl, by simp, rfl⟩
      · obtain rfl : k = len := by omega
        go_wp2_with fail
        go_ret
        refine ⟨true, rfl, fun _ => ⟨by rw [HLL.out]; exact h60, fun x hx => ?_⟩, rfl⟩
        obtain ⟨i, hi⟩ := List.mem_iff_getElem?.1 hx
        exact HA.out i x (by have := (List.getElem?_eq_some_iff.1 hi).1; rw [HLL.out] at this; exact this) hi
  · have g0 : decide ((60 : Int) < (len : Int)) = true := by simp; omega
    clear h60
    go_enter Try.func81, Try.ntmps81
    go_wp2_with fail
    go_ret
    exact ⟨false, rfl, by simp, rfl⟩

def Rd.lk : Lk := ⟨0, ⟨2, 1⟩, ⟨2, 1⟩, none, 0, 0, []⟩
def Rd.lks : List Lk := [Rd.lk, Rd.lk, Rd.lk]
def Rd.ahead : List Nd := [⟨0, 3, 0, 1⟩, ⟨1, 3, 0, 1⟩]
theorem Rd.ex_order : Rd.order 0 0 Rd.ahead ⟨2, 1⟩ ⟨2, 1⟩ = true ∧ Rd.order 0 0 [] ⟨2, 1⟩ ⟨2, 1⟩ = false ∧ Rd.order 0 0 Rd.ahead ⟨0, 0⟩ ⟨0, 0⟩ = false := by decide +kernel
theorem Rd.ex_unheard : Rd.Unheard 2 0 0 0 Rd.lks 0 := ⟨rfl, 1, by decide, by decide, fun k h1 h2 => by
  have hk : k = 1 ∨ k = 2 := by omega
  rcases hk with rfl | rfl <;> rfl⟩
theorem Rd.ex_heard {o : Option Nat} (h : Rd.IsHeard 2 0 0 0 Rd.lks o) : o = some 0 := (h.some_ 0 (by omega)).2 ⟨by decide, Rd.ex_unheard, fun j hj => absurd hj (by omega)⟩
theorem Rd.lk_there (w : World) : Rd.lk.There w := ⟨by simp [Rd.lk], by simp [Rd.lk, Fr.fits], by simp [Rd.lk, Fr.fits], by simp [Rd.lk], ⟨rfl, fun h => absurd h (by simp [Rd.lk])⟩, fun z hz => by simp [Rd.lk] at hz⟩

set_option maxHeartbeats 2000000 in
set_option maxRecDepth 100000 in
/-- daybreaklaw22.awake. -/
theorem Rd.awake_calls (w : World) : Calls Try.prog 79 #[] w fun e w' => e = .returned (.bool true) ∧ Below w.heap.size w w' := by
  obtain ⟨e1, e2, e3⟩ := Rd.ex_order
  obtain ⟨W2, hW2⟩ : ∃ W2 : World, W2 = (w.alloc (.cells #[.int .i64 0, .int .i64 2, .int .i64 1, .int .i64 2, .int .i64 1, .slice none 0 0] 77)).alloc (.cells #[.int .i64 0, .int .i64 3, .int .i64 0, .int .i64 1, .int .i64 1, .int .i64 3, .int .i64 0, .int .i64 1] 45) := ⟨_, rfl⟩
  have BW2 : Below w.heap.size w W2 := by rw [hW2]; exact Kit.alloc2 ..
  have hsz : W2.heap.size = w.heap.size + 2 := by rw [hW2]; simp
  have hnd : Nodes W2 (some ⟨w.heap.size + 1, 0, none⟩) 2 Rd.ahead := by
    have := Lies.built (w.alloc (.cells #[.int .i64 0, .int .i64 2, .int .i64 1, .int .i64 2, .int .i64 1, .slice none 0 0] 77)) #[.int .i64 0, .int .i64 3, .int .i64 0, .int .i64 1, .int .i64 1, .int .i64 3, .int .i64 0, .int .i64 1] 45 4 2 (Rd.ahead.map Nd.cells) rfl (by intro c hc; obtain ⟨z, _, rfl⟩ := List.mem_map.1 hc; rfl) rfl
    rw [show (w.alloc (.cells #[.int .i64 0, .int .i64 2, .int .i64 1, .int .i64 2, .int .i64 1, .slice none 0 0] 77)).heap.size = w.heap.size + 1 by simp] at this
    rw [hW2]
    exact this
  have hlies := Lies.built W2 #[.int .i64 0, .int .i64 2, .int .i64 1, .int .i64 2, .int .i64 1, .slice none 0 0, .int .i64 0, .int .i64 2, .int .i64 1, .int .i64 2, .int .i64 1, .slice none 0 0, .int .i64 0, .int .i64 2, .int .i64 1, .int .i64 2, .int .i64 1, .slice none 0 0] 77 6 3 (Rd.lks.map Lk.cells) rfl (by intro c hc; obtain ⟨z, _, rfl⟩ := List.mem_map.1 hc; rfl) rfl
  have hlk : Looks (W2.alloc (.cells #[.int .i64 0, .int .i64 2, .int .i64 1, .int .i64 2, .int .i64 1, .slice none 0 0, .int .i64 0, .int .i64 2, .int .i64 1, .int .i64 2, .int .i64 1, .slice none 0 0, .int .i64 0, .int .i64 2, .int .i64 1, .int .i64 2, .int .i64 1, .slice none 0 0] 77)) (some ⟨W2.heap.size, 0, none⟩) 3 Rd.lks := ⟨hlies, fun z hz => by
    have hz' : z = Rd.lk := by simp [Rd.lks] at hz; exact hz
    rw [hz']
    exact Rd.lk_there _⟩
  have k1 := Rd.heard_calls 2 0 0 0 _ 3 3 Rd.lks _ hlk (by omega) (by omega) (fun h => by cases h) (by omega) (by omega)
  have c_0 : ∀ (i : Nat) (v : Value), (#[.int .i64 0, .int .i64 2, .int .i64 1, .int .i64 2, .int .i64 1, .slice none 0 0] : Array Value)[i]? = some v → W2.cell? ⟨w.heap.size, i, none⟩ = some v := fun i v hv => by
    rw [hW2]
    exact Kit.cell_below (Kit.alloc1 ..) ((World.cell?_alloc_mark ..).trans hv)
  have BW3 : Below w.heap.size w (W2.alloc (.cells #[.int .i64 0, .int .i64 2, .int .i64 1, .int .i64 2, .int .i64 1, .slice none 0 0, .int .i64 0, .int .i64 2, .int .i64 1, .int .i64 2, .int .i64 1, .slice none 0 0, .int .i64 0, .int .i64 2, .int .i64 1, .int .i64 2, .int .i64 1, .slice none 0 0] 77)) := BW2.alloc BW2.size _
  have HND := Lib.hid hnd
  have C0 := Lib.hid c_0
  have B3 := Lib.hid BW3
  have HSZ := Lib.hid hsz
  clear hlies hlk hnd c_0 BW3 hsz BW2
  rw [HSZ.out] at k1
  subst hW2
  go_enter Try.func79, Try.ntmps79
  go_wp2_with fail
  refine k1.mono ?_
  clear k1
  rintro e w4 ⟨o, ho, rfl, b4⟩
  obtain rfl := Rd.ex_heard ho
  simp only [Sy.firstV, Option.getD_some, Option.isSome_some]
  have hbn := Kit.chain (Kit.alloc1 _ #[.int .i64 0, .int .i64 2, .int .i64 1, .int .i64 2, .int .i64 1, .slice none 0 0, .int .i64 0, .int .i64 2, .int .i64 1, .int .i64 2, .int .i64 1, .slice none 0 0, .int .i64 0, .int .i64 2, .int .i64 1, .int .i64 2, .int .i64 1, .slice none 0 0] 77) b4
  have z0 := Kit.cell_below hbn (C0.out 0 _ rfl)
  have z1 := Kit.cell_below hbn (C0.out 1 _ rfl)
  have z2 := Kit.cell_below hbn (C0.out 2 _ rfl)
  have z3 := Kit.cell_below hbn (C0.out 3 _ rfl)
  have z4 := Kit.cell_below hbn (C0.out 4 _ rfl)
  have z5 := Kit.cell_below hbn (C0.out 5 _ rfl)
  have N4 := Lib.hid (HND.out.below hbn)
  have B4 := Lib.hid (Kit.chain B3.out b4)
  clear b4 hbn ho
  have k2 := fun W (hW : Below w4.heap.size w4 W) => Rd.order_calls 0 0 0 2 1 2 1 _ 2 2 Rd.ahead (.slice none 0 0) W (N4.out.below hW) (by omega)
  have k3 := fun W => Rd.order_calls 0 0 0 2 1 2 1 none 0 0 [] (.slice none 0 0) W ⟨rfl, fun h => absurd h (by omega)⟩ (by omega)
  have k4 := fun W (hW : Below w4.heap.size w4 W) => Rd.order_calls 0 0 0 0 0 0 0 _ 2 2 Rd.ahead (.slice none 0 0) W (N4.out.below hW) (by omega)
  rw [e1] at k2
  rw [e2] at k3
  rw [e3] at k4
  have K2 := Lib.hid k2
  have K4 := Lib.hid k4
  clear k2 k4 e1 e2 e3
  go_wp2_with fail
  refine (K2.out _ (Below.refl _ _)).mono ?_
  rintro e w5 ⟨rfl, b5⟩
  replace z0 := Kit.cell_below b5 z0
  replace z1 := Kit.cell_below b5 z1
  replace z2 := Kit.cell_below b5 z2
  replace z3 := Kit.cell_below b5 z3
  replace z4 := Kit.cell_below b5 z4
  replace z5 := Kit.cell_below b5 z5
  have B5 := Lib.hid (Kit.chain B4.out b5)
  have D5 := Lib.hid b5
  clear b5
  go_wp2_with fail
  refine (k3 _).mono ?_
  rintro e w6 ⟨rfl, b6⟩
  have B6 := Lib.hid (Kit.chain B5.out b6)
  have D6 := Lib.hid (Kit.chain D5.out b6)
  clear b6
  go_wp2_with fail
  refine (K4.out _ D6.out).mono ?_
  rintro e w7 ⟨rfl, b7⟩
  have B7 := Lib.hid (Kit.chain B6.out b7)
  clear b7
  go_wp2_with fail
  go_ret
  exact ⟨rfl, B7.out⟩
end Go.Proofs.Ytpbkoooljelhjaa
