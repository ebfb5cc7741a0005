/-
  The walks of package daybreakref02: Right, Put, Get.
-/
import Derived.Test.YtpbkoooljelhjaaCrc2
import Derived.Test.YtpbkoooljelhjaaWire0
import Derived.BigRegion
import Derived.Test.YtpbkoooljelhjaaKit2
namespace Go.Proofs.Ytpbkoooljelhjaa
set_option linter.unusedVariables false
set_option linter.unusedSimpArgs false
open Go.RowKit

set_option maxHeartbeats 400000 in
set_option maxRecDepth 100000 in
/-- daybreakref02.Right. -/
theorem Wire.rright_calls (z : Fr) (w : World) :
    Calls Try.prog 46 #[.agg #[.int .i64 z.k, .int .i64 z.i]] w fun e w' => e = .returned (.bool z.right) ∧ Below w.heap.size w w' := by
  obtain ⟨k, i⟩ := z
  by_cases h0 : 0 ≤ i
  · by_cases h1 : k = 1
    · subst h1
      go_enter Try.func46, Try.ntmps46
      go_wp2_with fail
      go_ret
      exact ⟨by simp [Fr.right, h0], (Below.refl _ _).alloc (Nat.le_refl _) _⟩
    · by_cases h2 : k = 2
      · subst h2
        go_enter Try.func46, Try.ntmps46
        go_wp2_with fail
        go_ret
        exact ⟨by simp [Fr.right, h0], (Below.refl _ _).alloc (Nat.le_refl _) _⟩
      · have e1 : (k == 1) = false := by rw [beq_eq_false_iff_ne]; exact h1
        have e2 : (k == 2) = false := by rw [beq_eq_false_iff_ne]; exact h2
        go_enter Try.func46, Try.ntmps46
        go_wp2_with fail
        go_ret
        exact ⟨by simp [Fr.right, h1, h2], (Below.refl _ _).alloc (Nat.le_refl _) _⟩
  · have h0' : i < 0 := by omega
    by_cases h1 : k = 1
    · subst h1
      go_enter Try.func46, Try.ntmps46
      go_wp2_with fail
      go_ret
      exact ⟨by rw [Fr.right_neg ⟨1, i⟩ (show ¬ 0 ≤ i by omega)]; rfl, (Below.refl _ _).alloc (Nat.le_refl _) _⟩
    · by_cases h2 : k = 2
      · subst h2
        go_enter Try.func46, Try.ntmps46
        go_wp2_with fail
        go_ret
        exact ⟨by rw [Fr.right_neg ⟨2, i⟩ (show ¬ 0 ≤ i by omega)]; rfl, (Below.refl _ _).alloc (Nat.le_refl _) _⟩
      · have e1 : (k == 1) = false := by rw [beq_eq_false_iff_ne]; exact h1
        have e2 : (k == 2) = false := by rw [beq_eq_false_iff_ne]; exact h2
        go_enter Try.func46, Try.ntmps46
        go_wp2_with fail
        go_ret
        exact ⟨by simp [Fr.right, h1, h2], (Below.refl _ _).alloc (Nat.le_refl _) _⟩

set_option maxHeartbeats 400000 in
set_option maxRecDepth 100000 in
/-- daybreakref02.Put. -/
theorem Wire.rput_calls (z : Fr) (w : World) :
    Calls Try.prog 48 #[.agg #[.int .i64 z.k, .int .i64 z.i]] w fun e w' => e = .returned (.string (Wire.put z)) ∧ Below w.heap.size w w' := by
  by_cases h3 : z.k = 3
  · have e3 : (z.k == 3) = true := by rw [beq_iff_eq]; exact h3
    have ep : Wire.put z = ⟨#[0]⟩ := if_pos h3
    generalize Wire.put z = q at *
    subst ep
    have hcv := Kit.conv_back (P := Try.prog) 31 9 5 Try.underlying31 Try.underlying5 Try.underlying9 [0] #[.int .u8 0] rfl 1 1 rfl (w.alloc (.cells #[.int .i64 3, .int .i64 z.i] 51))
    have hz : (w.alloc (.cells #[.int .i64 3, .int .i64 z.i] 51)).heap.size = w.heap.size + 1 := by simp
    rw [show strOfNums [0] = ⟨#[0]⟩ from rfl, hz] at hcv
    go_enter Try.func48, Try.ntmps48
    go_wp2_with fail
    go_ret
    exact ⟨rfl, ((Below.refl _ _).alloc (Nat.le_refl _) _).alloc (by simp) _⟩
  · have e3 : (z.k == 3) = false := by rw [beq_eq_false_iff_ne]; exact h3
    cases hr : z.right with
    | false =>
      have ep : Wire.put z = ByteArray.empty := by unfold Wire.put; rw [if_neg h3, hr]; rfl
      have c := fun w => Wire.rright_calls z w
      rw [hr] at c
      generalize Wire.put z = q at *
      subst ep
      go_enter Try.func48, Try.ntmps48
      go_wp2_with fail
      refine (c _).mono ?_
      rintro e w1 ⟨rfl, h1⟩
      go_wp2_with fail
      go_ret
      exact ⟨rfl, Kit.chain ((Below.refl _ _).alloc (Nat.le_refl _) _) h1⟩
    | true =>
      have ep := Wire.put_right hr
      have c := fun w => Wire.rright_calls z w
      rw [hr] at c
      obtain ⟨a, b, ha, hb, rfl⟩ := Fr.right_nat hr
      have hf := Wire.body_facts a b ha hb
      have hcv := fun (w : World) => Kit.conv_back (P := Try.prog) 31 9 5 Try.underlying31 Try.underlying5 Try.underlying9 [216, (a : Int), (b : Int)] #[.int .u8 216, .int .u8 a, .int .u8 b] rfl 3 3 rfl w
      rw [show strOfNums [216, (a : Int), (b : Int)] = Wire.head a b from rfl] at hcv
      have hbody : Wire.body a b = Wire.head a b ++ Crc.four (Crc.sum (Wire.head a b).data.toList) := rfl
      have hsz : (Wire.head (a : Int) b).size ≤ 9223372036854775807 := by rw [hf.2.2.2]; decide
      have c2 := fun w => Crc.rsum_calls (Wire.head a b) w hsz
      have c3 := fun w => Crc.rfour_calls (Crc.sum (Wire.head a b).data.toList) w (Crc.sum_lt _)
      rw [hbody] at ep
      have z4 : (Crc.four (Crc.sum (Wire.head a b).data.toList)).size = 4 := strOfNums_size _
      have z3 := hf.2.2.2
      clear hbody hf hr
      generalize Crc.sum (Wire.head a b).data.toList = q at *
      generalize Wire.put ⟨a, b⟩ = p at *
      generalize Wire.head a b = hd at *
      subst ep
      simp only at c e3
      go_enter Try.func48, Try.ntmps48
      go_wp2_with fail
      refine (c _).mono ?_
      rintro e w1 ⟨rfl, h1⟩
      have q0 := Kit.cell_new h1 0 rfl
      have q1 := Kit.cell_new h1 1 rfl
      go_wp2_with fail
      refine (c2 _).mono ?_
      rintro e w2 ⟨rfl, rfl⟩
      go_wp2_with fail
      refine (c3 _).mono ?_
      rintro e w3 ⟨rfl, h3⟩
      go_wp2_with fail
      go_ret
      refine ⟨rfl, ?_⟩
      exact (Kit.chain ((Below.refl _ _).alloc (Nat.le_refl _) _) (Kit.chain h1 (Kit.chain ((Below.refl _ _).alloc (Nat.le_refl _) _) h3)))


/-- The answer's frame in Get's memory. -/
structure Wire.Ans (W : World) (B : Nat) : Prop where
  p0 : W.cell? ⟨B, 0, none⟩ = some (.int .i64 0)
  p1 : W.cell? ⟨B, 1, none⟩ = some (.int .i64 0)
  p2 : W.frozen? ⟨B, 0, none⟩ = false
  p3 : W.frozen? ⟨B, 1, none⟩ = false
theorem Wire.Ans.below {W W' : World} {B : Nat} (h : Wire.Ans W B) (hb : Below W.heap.size W W') : Wire.Ans W' B where
  p0 := Kit.cell_below hb h.p0
  p1 := Kit.cell_below hb h.p1
  p2 := (hb.frozen (p := ⟨B, 0, none⟩) (World.block_lt_of_cell? W ⟨B, 0, none⟩ h.p0)).trans h.p2
  p3 := (hb.frozen (p := ⟨B, 1, none⟩) (World.block_lt_of_cell? W ⟨B, 1, none⟩ h.p1)).trans h.p3

set_option maxHeartbeats 1000000 in
set_option maxRecDepth 100000 in
/-- daybreakref02.Get. -/
theorem Wire.rget_calls (s : ByteArray) (w : World) :
    Calls Try.prog 50 #[.string s] w fun e w' => e = .returned (.agg #[.int .i64 (Wire.get s).k, .int .i64 (Wire.get s).i]) ∧ Below w.heap.size w w' := by
  by_cases h0 : s.size = 0
  · have e0 := Kit.str_none h0
    subst e0
    rw [Wire.get_empty]
    go_enter Try.func50, Try.ntmps50
    go_wp2_with fail
    refine bodyPost_ret (v := .agg #[.int .i64 0, .int .i64 0]) (by simp [results, Try.results50, go_sem]) rfl ⟨rfl, ?_⟩
    exact (Below.refl _ _).alloc (Nat.le_refl _) _
  · have e0 : s.toList.isEmpty = false := Kit.str_full h0
    have H0 := Lib.hid h0
    clear h0
    generalize hg : Wire.get s = g at *
    have HG := Lib.hid hg
    clear hg
    go_enter Try.func50, Try.ntmps50
    go_wp2_with fail
    go_loopw [3, 4, 5] (fun vk _ _ wr => ∃ k : Nat, 1 ≤ k ∧ k ≤ 3 ∧ vk = .int .i64 k ∧ Hid (∀ a b : Nat, 1 ≤ a → a < k → b < 8 → Wire.put ⟨a, b⟩ ≠ s) ∧ Hid (Wire.Ans wr w.heap.size) ∧ Hid (Below w.heap.size w wr)) (fun vk _ _ _ => 3 - (intOf vk).toNat)
    case atStart =>
      refine ⟨1, by omega, by omega, rfl, Lib.hid (by intro a b h1 h2; omega), Lib.hid ⟨?_, ?_, ?_, ?_⟩, Lib.hid ((Below.refl _ _).alloc (Nat.le_refl _) _)⟩
      all_goals (go_simp; try rfl)
    case round =>
      obtain ⟨k, hk1, hk3, rfl, HN, HA, HB⟩ := hrel
      by_cases hk : k < 3
      · have hd : decide ((k : Int) ≤ 2) = true := by simp; omega
        go_wp2_with fail
        go_loopw [4, 5] (fun vj _ wr => ∃ j : Nat, j ≤ 8 ∧ vj = .int .i64 j ∧ Hid (∀ b : Nat, b < j → Wire.put ⟨k, b⟩ ≠ s) ∧ Hid (Wire.Ans wr w.heap.size) ∧ Hid (Below w.heap.size w wr)) (fun vj _ _ => 8 - (intOf vj).toNat)
        case atStart => exact ⟨0, by omega, rfl, Lib.hid (by intro b hb; omega), HA, HB⟩
        case round =>
          clear HA HB
          obtain ⟨j, hj, rfl, HM, HA, HB⟩ := hrel
          by_cases hj8 : j < 8
          · have hr : Fr.right ⟨(k : Int), (j : Int)⟩ = true := (Fr.right_iff _).2 ⟨by simp; omega, by simp, by simp; omega⟩
            have c := fun w => Wire.rput_calls ⟨(k : Int), (j : Int)⟩ w
            have hgp := Wire.get_put hr
            have HGP := Lib.hid hgp
            clear hgp hr
            by_cases hps : Wire.put ⟨(k : Int), (j : Int)⟩ = s
            · have e1 := Kit.str_eq hps
              have e2 : g = ⟨(k : Int), (j : Int)⟩ := by rw [← HG.out, ← hps]; exact HGP.out
              subst e2
              generalize Wire.put ⟨(k : Int), (j : Int)⟩ = q at *
              go_wp2_with fail
              refine (c _).mono ?_
              rintro e w1 ⟨rfl, h1⟩
              have ba := Kit.chain ((Below.refl _ _).alloc (Nat.le_refl _) _) h1
              have q0 := Kit.cell_new h1 0 rfl
              have q1 := Kit.cell_new h1 1 rfl
              obtain ⟨p0, p1, p2, p3⟩ := HA.out.below ba
              have HB1 := Lib.hid (Kit.chain HB.out ba)
              clear h1 ba
              go_wp2_with fail
              refine bodyPost_ret (v := .agg #[.int .i64 k, .int .i64 j]) (by simp [results, Try.results50, go_sem, p0, p1]) rfl ⟨rfl, ?_⟩
              exact (HB1.out.setCell (by simp) _).setCell (by simp) _
            · have e1 := Kit.str_ne hps
              have HP : Hid (∀ b : Nat, b < j + 1 → Wire.put ⟨k, b⟩ ≠ s) := Lib.hid (by
                intro b hb
                by_cases e : b = j
                · subst e; exact hps
                · exact HM.out b (by omega))
              clear hps
              generalize Wire.put ⟨(k : Int), (j : Int)⟩ = q at *
              go_wp2_with fail
              refine (c _).mono ?_
              rintro e w1 ⟨rfl, h1⟩
              have ba := Kit.chain ((Below.refl _ _).alloc (Nat.le_refl _) _) h1
              have HA1 := Lib.hid (HA.out.below ba)
              have HB1 := Lib.hid (Kit.chain HB.out ba)
              clear h1 ba
              go_wp2_with fail
              go_roundw
              case rel =>
                exact ⟨j + 1, by omega, by go_num, HP, HA1, HB1⟩
              case measure => simp [intOf]; omega
          · obtain rfl : j = 8 := by omega
            go_wp2_with fail
            go_roundw
            case rel => exact ⟨k + 1, by omega, by omega, by go_num, Lib.hid (by
              intro a b h1 h2 h3
              by_cases e : a = k
              · subst e; exact HM.out b h3
              · exact HN.out a b h1 (by omega) h3), HA, HB⟩
            case measure => simp [intOf]; omega
      · obtain rfl : k = 3 := by omega
        have hg3 : g = Fr.noise := by
          rw [← HG.out]
          refine Wire.get_search s H0.out ?_
          intro z hz
          obtain ⟨a, b, ha, hb, rfl⟩ := Fr.right_nat hz
          exact HN.out a b (by omega) (by omega) hb
        subst hg3
        obtain ⟨p0, p1, p2, p3⟩ := HA.out
        go_wp2_with fail
        refine bodyPost_ret (v := .agg #[.int .i64 3, .int .i64 0]) (by simp [results, Try.results50, go_sem, p0, p1]) rfl ⟨rfl, ?_⟩
        exact (HB.out.setCell (by simp) _).setCell (by simp) _
end Go.Proofs.Ytpbkoooljelhjaa
