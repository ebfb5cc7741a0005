/-
  The walk of the statements' own fixed fact (layer 20), and plain laws on those that have left.
-/
import Derived.Test.YtpbkoooljelhjaaVw7
namespace Go.Proofs.Ytpbkoooljelhjaa
set_option linter.unusedVariables false
set_option linter.unusedSimpArgs false
open Go.RowKit
namespace Vw
def ex : List Nd := [⟨0, 3, 0, 1⟩, ⟨1, 3, 0, 2⟩]
theorem ex_slot0 : slot 0 0 ex = none := by decide +kernel
theorem ex_slot1 : slot 1 1 ex = some 1 := by decide +kernel
theorem ex_active : active 0 0 ex = [0, 1] := by decide +kernel
theorem ex_all : all 0 0 ex = true := by decide +kernel
end Vw

set_option maxHeartbeats 1000000 in
set_option maxRecDepth 100000 in
theorem Vw.awake_calls (w : World) : Calls Try.prog 32 #[] w fun e w' => e = .returned (.bool true) ∧ Below w.heap.size w w' := by
  have hb : Below w.heap.size w (w.alloc (.cells #[.int .i64 0, .int .i64 3, .int .i64 0, .int .i64 1, .int .i64 1, .int .i64 3, .int .i64 0, .int .i64 2] 45)) := (Below.refl w.heap.size w).alloc (Nat.le_refl _) _
  have hn : Nodes (w.alloc (.cells #[.int .i64 0, .int .i64 3, .int .i64 0, .int .i64 1, .int .i64 1, .int .i64 3, .int .i64 0, .int .i64 2] 45)) (some ⟨w.heap.size, 0, none⟩) 2 Vw.ex :=
    Lies.built w _ _ 4 2 (Vw.ex.map Nd.cells) rfl (by decide) rfl
  have HB := Lib.hid hb
  have HN := Lib.hid hn
  have k1 := fun W hW => Vw.vslot_calls 0 0 (some ⟨w.heap.size, 0, none⟩) 2 2 Vw.ex W (HN.out.below hW) (by omega)
  have k2 := fun W hW => Vw.vslot_calls 1 1 (some ⟨w.heap.size, 0, none⟩) 2 2 Vw.ex W (HN.out.below hW) (by omega)
  have k3 := fun W hW => Vw.vactive_calls 0 0 (some ⟨w.heap.size, 0, none⟩) 2 2 Vw.ex W (HN.out.below hW) (by omega)
  have k4 := fun W hW => Vw.vall_calls 0 0 (some ⟨w.heap.size, 0, none⟩) 2 2 Vw.ex W (HN.out.below hW) (by omega)
  rw [Vw.ex_slot0] at k1
  rw [Vw.ex_slot1] at k2
  rw [Vw.ex_active] at k3
  rw [Vw.ex_all] at k4
  simp only [Vw.slotV, Option.getD_none, Option.isSome_none, Option.getD_some, Option.isSome_some] at k1 k2
  clear hb hn
  go_enter Try.func32, Try.ntmps32
  go_wp2_with fail
  refine (k1 _ (Below.refl _ _)).mono ?_
  rintro e w1 ⟨rfl, b1⟩
  have B1 := Lib.hid b1
  have c2 := k2 w1 b1
  clear b1 k1 k2
  go_wp2_with fail
  refine c2.mono ?_
  rintro e w2 ⟨rfl, b2⟩
  have B2 := Lib.hid (Kit.chain B1.out b2)
  have c3 := k3 w2 B2.out
  clear b2 k3
  go_wp2_with fail
  refine c3.mono ?_
  rintro e w3 ⟨v1, rfl, hown, b3⟩
  obtain ⟨A1, cap1, rfl, _⟩ := Vw.Ints.of_own hown
  have B3 := Lib.hid (Kit.chain B2.out b3)
  have c4 := k4 w3 B3.out
  clear b3 k4 hown
  go_wp2_with fail
  refine c4.mono ?_
  rintro e w4 ⟨rfl, b4⟩
  go_wp2_with fail
  go_ret
  exact ⟨rfl, Kit.chain HB.out (Kit.chain B3.out b4)⟩

namespace Vw
theorem changed_filter (c v : Int) (l m : List Nd) : changed c v l m = (active c v l).filter fun i => decide (m.length ≤ i) || !act i (m.getD i Nd.zero) := by
  unfold changed active places
  rw [List.filter_filter]
  apply List.filter_congr
  intro i _
  dsimp only
  cases fnode c v i <;> cases act i (l.getD i Nd.zero) <;> cases (decide (m.length ≤ i) || !act i (m.getD i Nd.zero)) <;> rfl
theorem changed_self (c v : Int) (l : List Nd) : changed c v l l = [] := by
  rw [changed_filter, List.filter_eq_nil_iff]
  intro i hi
  have hl := mem_places (c := c) (v := v) (so := act) (l := l) (k := l.length) hi
  have ha : act i (l.getD i Nd.zero) = true := by
    have := (List.mem_filter.1 hi).2
    simp only [Bool.and_eq_true] at this
    exact this.2
  rw [ha, decide_eq_false (show ¬ l.length ≤ i by omega)]
  simp
theorem changed_all (c v : Int) (l m : List Nd) (hlen : l.length ≤ m.length) (ha : all c v m = true) : changed c v l m = [] := by
  rw [changed_filter, List.filter_eq_nil_iff]
  intro i hi
  have hl := mem_places (c := c) (v := v) (so := act) (l := l) (k := l.length) hi
  have hf : fnode c v i = false := by
    have := (List.mem_filter.1 hi).2
    simp only [Bool.and_eq_true, Bool.not_eq_true'] at this
    exact this.1
  have hact : act i (m.getD i Nd.zero) = true := by
    cases h : act i (m.getD i Nd.zero) with
    | true => rfl
    | false =>
      exfalso
      have h1 : i ∈ places c v (fun i x => !act i x) m m.length := by
        unfold places
        rw [List.mem_filter]
        refine ⟨by simp; omega, ?_⟩
        dsimp only
        rw [hf, h]
        rfl
      have h2 : (places c v (fun i x => !act i x) m m.length).length = 0 := by unfold all at ha; simpa using ha
      rw [List.eq_nil_of_length_eq_zero h2] at h1
      simp at h1
  rw [hact, decide_eq_false (show ¬ m.length ≤ i by omega)]
  simp
/-- One step through a list beside what is filtered out of it. -/
theorem step_yes (q : Nat → Bool) (on : List Nat) (i x : Nat) (hx : on[i]? = some x) (hq : q x = true) :
    ((on.take (i + 1)).filter q).length = ((on.take i).filter q).length + 1 ∧ (on.filter q)[((on.take i).filter q).length]? = some x := by
  obtain ⟨hi, he⟩ := List.getElem?_eq_some_iff.1 hx
  have h1 : on.take (i + 1) = on.take i ++ [x] := by rw [List.take_succ_eq_append_getElem hi, he]
  have h2 : (on.take (i + 1)).filter q = (on.take i).filter q ++ [x] := by rw [h1, List.filter_append, List.filter_cons_of_pos hq, List.filter_nil]
  refine ⟨by rw [h2, List.length_append]; rfl, ?_⟩
  have h3 : on.filter q = (on.take (i + 1)).filter q ++ (on.drop (i + 1)).filter q := by rw [← List.filter_append, List.take_append_drop]
  rw [h3, h2, List.append_assoc, List.getElem?_append_right (Nat.le_refl _), Nat.sub_self]
  rfl
theorem step_no (q : Nat → Bool) (on : List Nat) (i x : Nat) (hx : on[i]? = some x) (hq : q x = false) :
    ((on.take (i + 1)).filter q).length = ((on.take i).filter q).length ∧ ∀ y, (on.filter q)[((on.take i).filter q).length]? = some y → y ≠ x := by
  obtain ⟨hi, he⟩ := List.getElem?_eq_some_iff.1 hx
  have h1 : on.take (i + 1) = on.take i ++ [x] := by rw [List.take_succ_eq_append_getElem hi, he]
  have h2 : (on.take (i + 1)).filter q = (on.take i).filter q := by rw [h1, List.filter_append, List.filter_cons_of_neg (by rw [hq]; simp), List.filter_nil, List.append_nil]
  refine ⟨by rw [h2], fun y hy e => ?_⟩
  have := (List.mem_filter.1 (List.mem_of_getElem? hy)).2
  rw [e, hq] at this
  simp at this
theorem take_le (q : Nat → Bool) (on : List Nat) (i : Nat) : ((on.take i).filter q).length ≤ (on.filter q).length := by
  have h3 : on.filter q = (on.take i).filter q ++ (on.drop i).filter q := by rw [← List.filter_append, List.take_append_drop]
  rw [h3, List.length_append]
  omega
end Vw
end Go.Proofs.Ytpbkoooljelhjaa
