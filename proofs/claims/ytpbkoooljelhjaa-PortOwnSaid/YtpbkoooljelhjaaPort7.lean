/-
  The statements' own fixed fact (awake) on ports.
-/
import Derived.Test.YtpbkoooljelhjaaPort6
namespace Go.Proofs.Ytpbkoooljelhjaa
set_option linter.unusedVariables false
set_option linter.unusedSimpArgs false
open Go.RowKit

theorem Port.example_ : Port.takeV 3 [ByteArray.empty, Wire.put ⟨1, 2⟩, Wire.put ⟨1, 2⟩] = ([Fr.none, Fr.none, ⟨1, 2⟩], 0) := by decide +kernel
theorem Port.example_nil : Port.takeV 3 [] = ([], 2) := by decide
theorem Strs.nil (w : World) : Strs w none 0 [] := ⟨rfl, fun h => absurd h (by omega)⟩

set_option maxHeartbeats 1000000 in
set_option maxRecDepth 100000 in
theorem Port.awake_calls (w : World) :
    Calls Try.prog 52 #[] w fun e w' => e = .returned (.bool true) ∧ Below w.heap.size w w' := by
  have c1 := fun w => Wire.rput_calls ⟨1, 2⟩ w
  have hz := Wire.put_size (z := ⟨1, 2⟩) rfl
  have c2 := fun (w : World) => Port.take_calls 3 (some ⟨w.heap.size, 0, none⟩) 3 3 [ByteArray.empty, Wire.put ⟨1, 2⟩, Wire.put ⟨1, 2⟩] (w.alloc (.cells #[.string ByteArray.empty, .string (Wire.put ⟨1, 2⟩), .string (Wire.put ⟨1, 2⟩)] 9))
    (Lies.built w _ _ 1 3 ([ByteArray.empty, Wire.put ⟨1, 2⟩, Wire.put ⟨1, 2⟩].map fun s => [Value.string s]) rfl (by intro c hc; simp at hc; rcases hc with rfl | rfl | rfl <;> rfl) rfl)
    (by intro s hs; simp at hs; unfold maxLen; rcases hs with rfl | rfl <;> simp [hz]) (by omega)
  have c3 := fun (w : World) => Port.take_calls 3 none 0 0 [] w (Strs.nil w) (by simp) (by omega)
  rw [Port.example_nil] at c3
  rw [Port.example_] at c2
  clear hz
  generalize Wire.put ⟨1, 2⟩ = q at *
  simp only at c1 c2 c3
  go_enter Try.func52, Try.ntmps52
  go_wp2_with fail
  refine (c1 _).mono ?_
  rintro e w1 ⟨rfl, b1⟩
  go_wp2_with fail
  refine (c1 _).mono ?_
  rintro e w2 ⟨rfl, b2⟩
  go_wp2_with fail
  refine (c2 _).mono ?_
  rintro e w3 ⟨v3, rfl, hown3, b3⟩
  obtain ⟨A3, cap3, rfl, hf3⟩ := Port.of_own hown3
  have B3 := Lib.hid (Kit.chain b1 (Kit.chain b2 (Kit.chain ((Below.refl _ _).alloc (Nat.le_refl _) _) b3)))
  clear b1 b2 b3 hown3
  go_wp2_with fail
  refine (c3 _).mono ?_
  rintro e w4 ⟨v4, rfl, hown4, b4⟩
  obtain ⟨A4, cap4, rfl, _⟩ := Port.of_own hown4
  have B4 := Lib.hid (Kit.chain B3.out b4)
  have hf4 := hf3.below b4
  have c5 := Port.rsame_calls A3 (some ⟨w4.heap.size, 0, none⟩) 3 cap3 3 3 [Fr.none, Fr.none, ⟨1, 2⟩] [Fr.none, Fr.none, ⟨1, 2⟩] (w4.alloc (.cells #[.int .i64 0, .int .i64 0, .int .i64 0, .int .i64 0, .int .i64 1, .int .i64 2] 51))
    (hf4.below ((Below.refl _ _).alloc (Nat.le_refl _) _)) (Lies.built w4 _ _ 2 3 ([Fr.none, Fr.none, (⟨1, 2⟩ : Fr)].map Fr.cells) rfl (by intro c hc; simp at hc; rcases hc with rfl | rfl <;> rfl) rfl) (by omega) (by omega)
  clear b4 hown4 hf3 hf4
  go_wp2_with fail
  refine c5.mono ?_
  rintro e w5 ⟨rfl, b5⟩
  go_wp2_with fail
  go_ret
  exact ⟨rfl, Kit.chain B4.out (Kit.chain ((Below.refl _ _).alloc (Nat.le_refl _) _) b5)⟩
end Go.Proofs.Ytpbkoooljelhjaa
