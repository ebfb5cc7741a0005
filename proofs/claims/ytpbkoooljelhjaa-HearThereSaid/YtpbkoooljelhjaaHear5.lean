/-
  hear.Of and the document's answer, of any number.
-/
import Derived.Test.YtpbkoooljelhjaaHear4
namespace Go.Proofs.Ytpbkoooljelhjaa
set_option linter.unusedVariables false
set_option linter.unusedSimpArgs false
open Go.RowKit

/-- What is heard of both channels, and whether it went well. -/
def Hear.ofV (n : Int) (a b : ByteArray) : Fr × Fr × Int := if 3 ≤ n ∧ n ≤ 8 then (Hear.one n a, Hear.one n b, 0) else (Fr.none, Fr.none, 1)
theorem Hear.of_any (n : Int) (a b : ByteArray) (w : World) (ha : a.size ≤ 9223372036854775807) (hb : b.size ≤ 9223372036854775807) :
    Calls Try.prog 66 #[.int .i64 n, .string a, .string b] w fun e w' => e = .returned (.tuple #[.agg #[.int .i64 (Hear.ofV n a b).1.k, .int .i64 (Hear.ofV n a b).1.i, .int .i64 (Hear.ofV n a b).2.1.k, .int .i64 (Hear.ofV n a b).2.1.i], .int .i64 (Hear.ofV n a b).2.2]) ∧ Below w.heap.size w w' := by
  unfold Hear.ofV
  by_cases h : 3 ≤ n ∧ n ≤ 8
  · rw [if_pos h]
    exact Hear.of_calls n a b w h.1 h.2 ha hb
  · rw [if_neg h]
    exact Hear.of_no n a b w h
theorem Hear.rof_any (n : Int) (a b : ByteArray) (w : World)  :
    Calls Try.prog 70 #[.int .i64 n, .string a, .string b] w fun e w' => e = .returned (.tuple #[.agg #[.int .i64 (Hear.ofV n a b).1.k, .int .i64 (Hear.ofV n a b).1.i, .int .i64 (Hear.ofV n a b).2.1.k, .int .i64 (Hear.ofV n a b).2.1.i], .int .i64 (Hear.ofV n a b).2.2]) ∧ Below w.heap.size w w' := by
  unfold Hear.ofV
  by_cases h : 3 ≤ n ∧ n ≤ 8
  · rw [if_pos h]
    exact Hear.rof_calls n a b w h.1 h.2
  · rw [if_neg h]
    exact Hear.rof_no n a b w h
end Go.Proofs.Ytpbkoooljelhjaa
