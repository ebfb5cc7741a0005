/-
  The walk of daybreakref20.Modes.
-/
import Derived.Test.YtpbkoooljelhjaaVw6
namespace Go.Proofs.Ytpbkoooljelhjaa
set_option linter.unusedVariables false
set_option linter.unusedSimpArgs false
open Go.RowKit

set_option maxHeartbeats 2000000 in
set_option maxRecDepth 100000 in
/-- daybreakref20.Modes. -/
theorem Vw.rmodes_calls (A : Option Addr) (n cap : Nat) (l : List Nd) (w : World) (hl : Nodes w A n l) (hn : n ≤ 1000000) :
    Calls Try.prog 42 #[.slice A n cap] w fun e w' => e = .returned (Vw.modesV l) ∧ Below w.heap.size w w' := by
  have HL := Lib.hid hl
  clear hl
  go_enter Try.func42, Try.ntmps42
  go_wp2_with fail
  go_loopw [4] (fun vi wr => ∃ k : Nat, k ≤ n ∧ vi = .int .i64 k ∧ wr.cell? ⟨w.heap.size + 1, 0, none⟩ = some (.int .i64 (Vw.cnt l 0 k : Nat)) ∧ wr.cell? ⟨w.heap.size + 1, 1, none⟩ = some (.int .i64 (Vw.cnt l 1 k : Nat)) ∧
    wr.cell? ⟨w.heap.size + 1, 2, none⟩ = some (.int .i64 (Vw.cnt l 2 k : Nat)) ∧ wr.cell? ⟨w.heap.size + 1, 3, none⟩ = some (.int .i64 (Vw.cnt l 3 k : Nat)) ∧
    wr.frozen? ⟨w.heap.size + 1, 0, none⟩ = false ∧ wr.frozen? ⟨w.heap.size + 1, 1, none⟩ = false ∧ wr.frozen? ⟨w.heap.size + 1, 2, none⟩ = false ∧ wr.frozen? ⟨w.heap.size + 1, 3, none⟩ = false ∧
    wr.cell? ⟨w.heap.size, 0, none⟩ = some (.int .i64 0) ∧ wr.cell? ⟨w.heap.size, 1, none⟩ = some (.int .i64 0) ∧ wr.cell? ⟨w.heap.size, 2, none⟩ = some (.int .i64 0) ∧ wr.cell? ⟨w.heap.size, 3, none⟩ = some (.int .i64 0) ∧
    wr.frozen? ⟨w.heap.size, 0, none⟩ = false ∧ wr.frozen? ⟨w.heap.size, 1, none⟩ = false ∧ wr.frozen? ⟨w.heap.size, 2, none⟩ = false ∧ wr.frozen? ⟨w.heap.size, 3, none⟩ = false ∧ Hid (Below w.heap.size w wr)) (fun vi _ => n - (intOf vi).toNat)
  case atStart => exact ⟨0, by omega, rfl, by go_simp; rfl, by go_simp; rfl, by go_simp; rfl, by go_simp; rfl, by go_simp, by go_simp, by go_simp, by go_simp, by go_simp, by go_simp, by go_simp, by go_simp, by go_simp, by go_simp, by go_simp, by go_simp, Lib.hid (((Below.refl _ _).alloc (Nat.le_refl _) _).alloc (by simp) _)⟩
  case round =>
    obtain ⟨k, hk, rfl, c0, c1, c2, c3, f0, f1, f2, f3, z0, z1, z2, z3, g0, g1, g2, g3, HB⟩ := hrel
    by_cases hlt : k < n
    · obtain ⟨b, off, rfl, hb, hrow⟩ := HL.out.row (by omega)
      have hkl : k < l.length := by rw [HL.out.len]; exact hlt
      obtain ⟨x, hx⟩ : ∃ x, l[k]? = some x := ⟨_, List.getElem?_eq_getElem hkl⟩
      have m1 := (HB.out.cell (p := ⟨b, off + k * 4 + 1, none⟩) hb).trans (hrow k x hx).2.1
      have s0 := Lib.hid (Vw.cnt_succ l 0 k x hx)
      have s1 := Lib.hid (Vw.cnt_succ l 1 k x hx)
      have s2 := Lib.hid (Vw.cnt_succ l 2 k x hx)
      have s3 := Lib.hid (Vw.cnt_succ l 3 k x hx)
      have l0 := Vw.cnt_le l 0 k
      have l1 := Vw.cnt_le l 1 k
      have l2 := Vw.cnt_le l 2 k
      have l3 := Vw.cnt_le l 3 k
      clear hrow hx
      obtain ⟨xi, xm, xc, xp⟩ := x
      by_cases hin : 0 ≤ xm ∧ xm < 4
      · obtain ⟨h0, h4⟩ := hin
        rcases (show xm = 0 ∨ xm = 1 ∨ xm = 2 ∨ xm = 3 by omega) with rfl | rfl | rfl | rfl
        · have HB2 : Hid (Below w.heap.size w (wr.setCell ⟨w.heap.size + 1, 0, none⟩ (.int .i64 ((Vw.cnt l 0 k : Nat) + 1 : Int)))) := Lib.hid (HB.out.setCell (by simp) _)
          go_wp2_with fail
          go_roundw
          case rel => exact ⟨k + 1, by omega, by go_num, by rw [s0.out, if_pos rfl]; go_simp; try go_num, by rw [s1.out, if_neg (by show ¬ (0 : Int) = 1; omega)]; go_simp; try exact c1, by rw [s2.out, if_neg (by show ¬ (0 : Int) = 2; omega)]; go_simp; try exact c2, by rw [s3.out, if_neg (by show ¬ (0 : Int) = 3; omega)]; go_simp; try exact c3, by go_simp, by go_simp, by go_simp, by go_simp, by go_simp, by go_simp, by go_simp, by go_simp, by go_simp, by go_simp, by go_simp, by go_simp, HB2⟩
          case measure => simp [intOf]; omega
        · have HB2 : Hid (Below w.heap.size w (wr.setCell ⟨w.heap.size + 1, 1, none⟩ (.int .i64 ((Vw.cnt l 1 k : Nat) + 1 : Int)))) := Lib.hid (HB.out.setCell (by simp) _)
          go_wp2_with fail
          go_roundw
          case rel => exact ⟨k + 1, by omega, by go_num, by rw [s0.out, if_neg (by show ¬ (1 : Int) = 0; omega)]; go_simp; try exact c0, by rw [s1.out, if_pos rfl]; go_simp; try go_num, by rw [s2.out, if_neg (by show ¬ (1 : Int) = 2; omega)]; go_simp; try exact c2, by rw [s3.out, if_neg (by show ¬ (1 : Int) = 3; omega)]; go_simp; try exact c3, by go_simp, by go_simp, by go_simp, by go_simp, by go_simp, by go_simp, by go_simp, by go_simp, by go_simp, by go_simp, by go_simp, by go_simp, HB2⟩
          case measure => simp [intOf]; omega
        · have HB2 : Hid (Below w.heap.size w (wr.setCell ⟨w.heap.size + 1, 2, none⟩ (.int .i64 ((Vw.cnt l 2 k : Nat) + 1 : Int)))) := Lib.hid (HB.out.setCell (by simp) _)
          go_wp2_with fail
          go_roundw
          case rel => exact ⟨k + 1, by omega, by go_num, by rw [s0.out, if_neg (by show ¬ (2 : Int) = 0; omega)]; go_simp; try exact c0, by rw [s1.out, if_neg (by show ¬ (2 : Int) = 1; omega)]; go_simp; try exact c1, by rw [s2.out, if_pos rfl]; go_simp; try go_num, by rw [s3.out, if_neg (by show ¬ (2 : Int) = 3; omega)]; go_simp; try exact c3, by go_simp, by go_simp, by go_simp, by go_simp, by go_simp, by go_simp, by go_simp, by go_simp, by go_simp, by go_simp, by go_simp, by go_simp, HB2⟩
          case measure => simp [intOf]; omega
        · have HB2 : Hid (Below w.heap.size w (wr.setCell ⟨w.heap.size + 1, 3, none⟩ (.int .i64 ((Vw.cnt l 3 k : Nat) + 1 : Int)))) := Lib.hid (HB.out.setCell (by simp) _)
          go_wp2_with fail
          go_roundw
          case rel => exact ⟨k + 1, by omega, by go_num, by rw [s0.out, if_neg (by show ¬ (3 : Int) = 0; omega)]; go_simp; try exact c0, by rw [s1.out, if_neg (by show ¬ (3 : Int) = 1; omega)]; go_simp; try exact c1, by rw [s2.out, if_neg (by show ¬ (3 : Int) = 2; omega)]; go_simp; try exact c2, by rw [s3.out, if_pos rfl]; go_simp; try go_num, by go_simp, by go_simp, by go_simp, by go_simp, by go_simp, by go_simp, by go_simp, by go_simp, by go_simp, by go_simp, by go_simp, by go_simp, HB2⟩
          case measure => simp [intOf]; omega
      · have N0 : Hid (¬ xm = 0) := Lib.hid (by omega)
        have N1 : Hid (¬ xm = 1) := Lib.hid (by omega)
        have N2 : Hid (¬ xm = 2) := Lib.hid (by omega)
        have N3 : Hid (¬ xm = 3) := Lib.hid (by omega)
        by_cases h0 : 0 ≤ xm
        · have h4 : 4 ≤ xm := by omega
          clear hin
          go_wp2_with fail
          go_roundw
          case rel => exact ⟨k + 1, by omega, by go_num, by rw [s0.out, if_neg N0.out]; exact c0, by rw [s1.out, if_neg N1.out]; exact c1, by rw [s2.out, if_neg N2.out]; exact c2, by rw [s3.out, if_neg N3.out]; exact c3, f0, f1, f2, f3, z0, z1, z2, z3, g0, g1, g2, g3, HB⟩
          case measure => simp [intOf]; omega
        · have h4 : xm < 0 := by omega
          clear hin h0
          go_wp2_with fail
          go_roundw
          case rel => exact ⟨k + 1, by omega, by go_num, by rw [s0.out, if_neg N0.out]; exact c0, by rw [s1.out, if_neg N1.out]; exact c1, by rw [s2.out, if_neg N2.out]; exact c2, by rw [s3.out, if_neg N3.out]; exact c3, f0, f1, f2, f3, z0, z1, z2, z3, g0, g1, g2, g3, HB⟩
          case measure => simp [intOf]; omega
    · obtain rfl : k = n := by omega
      have hln := HL.out.len
      have HLn := Lib.hid hln
      clear hln
      go_wp2_with fail
      refine bodyPost_ret (v := Vw.modesV l) (by simp [results, Try.results42, go_sem, Vw.modesV, HLn.out, z0, z1, z2, z3]) rfl ⟨rfl, ?_⟩
      exact (((HB.out.setCell (by simp) _).setCell (by simp) _).setCell (by simp) _).setCell (by simp) _
end Go.Proofs.Ytpbkoooljelhjaa
