/-
  The statements' own fixed fact (awake) on frames.
-/
import Derived.Test.YtpbkoooljelhjaaWire1
import Derived.Test.YtpbkoooljelhjaaWire2
namespace Go.Proofs.Ytpbkoooljelhjaa
set_option linter.unusedVariables false
set_option linter.unusedSimpArgs false
open Go.RowKit

theorem Wire.field_k (a b : Int) (w : World) : (Instr.field 51 (.agg #[.int .i64 a, .int .i64 b]) 0).run Try.prog w = .ok (.int .i64 a) w := by kernel_rfl
theorem Wire.one : (Wire.put ⟨1, 1⟩).size = 7 ∧ Wire.get (Wire.put ⟨1, 1⟩) = ⟨1, 1⟩ ∧ (Wire.put ⟨1, 1⟩).data.toList.getD 0 0 = 216 := by decide +kernel
theorem Wire.first {s : ByteArray} (h : s.size = 7) (h0 : s.data.toList.getD 0 0 = 216) : s[0].toNat = 216 := by
  obtain ⟨⟨l⟩⟩ := s
  obtain ⟨a, b, c, d, e, f, g, rfl⟩ := Wire.seven l h
  have : a = 216 := h0
  subst this
  rfl

set_option maxHeartbeats 1000000 in
set_option maxRecDepth 100000 in
/-- A frame that is one, and nothing. -/
theorem Wire.awake_calls (w : World) :
    Calls Try.prog 44 #[] w fun e w' => e = .returned (.bool true) ∧ Below w.heap.size w w' := by
  have c1 := fun w => Wire.put_calls ⟨1, 1⟩ w
  have c2 := fun w => Wire.get_calls (Wire.put ⟨1, 1⟩) w (by rw [Wire.one.1]; decide)
  have c3 := fun w => Wire.get_calls ByteArray.empty w (by decide)
  obtain ⟨q, hq, hz, h0⟩ : ∃ q, Wire.put ⟨1, 1⟩ = q ∧ ∃ h : q.size = 7, q[0].toNat = 216 := ⟨_, rfl, Wire.one.1, Wire.first Wire.one.1 Wire.one.2.2⟩
  rw [Wire.get_empty] at c3
  rw [Wire.one.2.1] at c2
  rw [hq] at c1 c2
  clear hq
  simp only [Fr.none] at c1 c2 c3
  go_enter Try.func44, Try.ntmps44
  go_wp2_with fail
  refine (c1 _).mono ?_
  rintro e w1 ⟨rfl, h1⟩
  go_wp2_with fail
  refine (c2 _).mono ?_
  rintro e w2 ⟨rfl, h2⟩
  go_wp2_with fail
  refine (c3 _).mono ?_
  rintro e w3 ⟨rfl, h3⟩
  go_wp2_with fail
  go_ret
  exact ⟨rfl, Kit.chain h1 (Kit.chain h2 h3)⟩
end Go.Proofs.Ytpbkoooljelhjaa
