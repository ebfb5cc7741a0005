/-
  WireTells: the walk of the statement's own function.
-/
import Derived.Test.YtpbkoooljelhjaaWire3
import Derived.Test.YtpbkoooljelhjaaOp2
import Derived.Deep.RegionHeld3
import Derived.BigRegion
namespace Go.Proofs.Ytpbkoooljelhjaa.WireTells
set_option linter.unusedVariables false
set_option linter.unusedSimpArgs false
open Go.RowKit


set_option maxHeartbeats 1000000 in
set_option maxRecDepth 100000 in
theorem walk1 (k i : Int) (s : ByteArray) (hs : s.size ≤ 9223372036854775807) (w : World) :
    Calls Try.prog 9 #[.agg #[.int .i64 k, .int .i64 i], .string s] w fun e w' => e = .returned (.bool true) ∧ Below w.heap.size w w' := by
  by_cases h100 : s.size ≤ 100
  · have h1 : decide ((100 : Int) < (s.size : Int)) = false := by simp; omega
    have c3 := fun w => Wire.put_calls ⟨k, i⟩ w
    have c4 := fun w => Wire.rput_calls ⟨k, i⟩ w
    have c5 := fun w => Wire.get_calls s w hs
    have c6 := fun w => Wire.rget_calls s w
    generalize Wire.put ⟨k, i⟩ = q at *
    generalize Wire.get s = y at *
    obtain ⟨yk, yi⟩ := y
    simp only at c3 c4 c5 c6
    go_enter Try.func9, Try.ntmps9
    go_wp2_with fail
    have x0 : (w.alloc (.cells #[.int .i64 k, .int .i64 i] 51)).cell? ⟨w.heap.size, 0, none⟩ = some (.int .i64 k) := by go_simp
    have x1 : (w.alloc (.cells #[.int .i64 k, .int .i64 i] 51)).cell? ⟨w.heap.size, 1, none⟩ = some (.int .i64 i) := by go_simp
    have B0 : Hid (Below w.heap.size w (w.alloc (.cells #[.int .i64 k, .int .i64 i] 51))) := Lib.hid ((Below.refl _ _).alloc (Nat.le_refl _) _)
    generalize (w.alloc (.cells #[.int .i64 k, .int .i64 i] 51)) = W1 at *
    go_region_held3 (fun w' => w'.cell? ⟨w.heap.size, 0, none⟩ = some (.int .i64 k) ∧ w'.cell? ⟨w.heap.size, 1, none⟩ = some (.int .i64 i)) (go_keep)
      (first | (go_at_call 44; refine (Wire.awake_calls _).mono ?_; rintro e mw0 ⟨rfl, mb0⟩; have mc0_0 := Kit.cell_below mb0 x0; have mc0_1 := Kit.cell_below mb0 x1; have mB0 := Lib.hid (B0.out.drew.trans (mb0.mono B0.out.drew.size)); clear mb0) | (go_at_call 45; refine (Wire.right_calls ⟨k, i⟩ _).mono ?_; rintro e mw1 ⟨rfl, mb1⟩; have mc1_0 := Kit.cell_below mb1 mc0_0; have mc1_1 := Kit.cell_below mb1 mc0_1; have mB1 := Lib.hid (Kit.chain mB0.out mb1); clear mb1) | (go_at_call 46; refine (Wire.rright_calls ⟨k, i⟩ _).mono ?_; rintro e mw2 ⟨rfl, mb2⟩; have mc2_0 := Kit.cell_below mb2 mc1_0; have mc2_1 := Kit.cell_below mb2 mc1_1; have mB2 := Lib.hid (Kit.chain mB1.out mb2); clear mb2) | (go_at_call 47; refine (c3 _).mono ?_; rintro e mw3 ⟨rfl, mb3⟩; have mc3_0 := Kit.cell_below mb3 mc2_0; have mc3_1 := Kit.cell_below mb3 mc2_1; have mB3 := Lib.hid (Kit.chain mB2.out mb3); clear mb3) | (go_at_call 48; refine (c4 _).mono ?_; rintro e mw4 ⟨rfl, mb4⟩; have mc4_0 := Kit.cell_below mb4 mc3_0; have mc4_1 := Kit.cell_below mb4 mc3_1; have mB4 := Lib.hid (Kit.chain mB3.out mb4); clear mb4) | (go_at_call 49; refine (c5 _).mono ?_; rintro e mw5 ⟨rfl, mb5⟩; have mc5_0 := Kit.cell_below mb5 mc4_0; have mc5_1 := Kit.cell_below mb5 mc4_1; have mB5 := Lib.hid (Kit.chain mB4.out mb5); clear mb5) | (go_at_call 50; refine (c6 _).mono ?_; rintro e mw6 ⟨rfl, mb6⟩; have mc6_0 := Kit.cell_below mb6 mc5_0; have mc6_1 := Kit.cell_below mb6 mc5_1; have mB6 := Lib.hid (Kit.chain mB5.out mb6); clear mb6))
    go_wp2_with fail
    go_ret
    exact ⟨rfl, mB6.out⟩
  · have h1 : 100 < s.size := by omega
    go_enter Try.func9, Try.ntmps9
    go_wp2_with fail
    refine (Wire.awake_calls _).mono ?_
    rintro e w1 ⟨rfl, b1⟩
    go_wp2_with fail
    go_ret
    exact ⟨rfl, Kit.chain ((Below.refl _ _).alloc (Nat.le_refl _) _) b1⟩

theorem walk (v : Value) (a1 : ByteArray) (w0 : Op.IsFrame v) (w1 : a1.size ≤ maxLen) (w : World) :
    Calls Try.prog 9 #[v, .string a1] w fun e w' => e = .returned (.bool true) ∧ Below w.heap.size w w' := by
  obtain ⟨z, rfl, _⟩ := w0
  unfold maxLen at w1
  exact walk1 z.k z.i a1 (by omega) w
end Go.Proofs.Ytpbkoooljelhjaa.WireTells
