/-
  The walks of package wire: Right, Put, Get.
-/
import Derived.Test.YtpbkoooljelhjaaCrc1
import Derived.Test.YtpbkoooljelhjaaWire0
import Derived.BigRegion
import Derived.Test.YtpbkoooljelhjaaKit2
namespace Go.Proofs.Ytpbkoooljelhjaa
set_option linter.unusedVariables false
set_option linter.unusedSimpArgs false
open Go.RowKit

set_option maxHeartbeats 400000 in
set_option maxRecDepth 100000 in
/-- wire.Right. -/
theorem Wire.right_calls (z : Fr) (w : World) :
    Calls Try.prog 45 #[.agg #[.int .i64 z.k, .int .i64 z.i]] w fun e w' => e = .returned (.bool z.right) ∧ Below w.heap.size w w' := by
  obtain ⟨k, i⟩ := z
  by_cases h0 : 0 ≤ i
  · by_cases h1 : k = 1
    · subst h1
      go_enter Try.func45, Try.ntmps45
      go_wp2_with fail
      go_ret
      exact ⟨by simp [Fr.right, h0], (Below.refl _ _).alloc (Nat.le_refl _) _⟩
    · by_cases h2 : k = 2
      · subst h2
        go_enter Try.func45, Try.ntmps45
        go_wp2_with fail
        go_ret
        exact ⟨by simp [Fr.right, h0], (Below.refl _ _).alloc (Nat.le_refl _) _⟩
      · have e1 : (k == 1) = false := by rw [beq_eq_false_iff_ne]; exact h1
        have e2 : (k == 2) = false := by rw [beq_eq_false_iff_ne]; exact h2
        go_enter Try.func45, Try.ntmps45
        go_wp2_with fail
        go_ret
        exact ⟨by simp [Fr.right, h1, h2], (Below.refl _ _).alloc (Nat.le_refl _) _⟩
  · have h0' : i < 0 := by omega
    by_cases h1 : k = 1
    · subst h1
      go_enter Try.func45, Try.ntmps45
      go_wp2_with fail
      go_ret
      exact ⟨by rw [Fr.right_neg ⟨1, i⟩ (show ¬ 0 ≤ i by omega)]; rfl, (Below.refl _ _).alloc (Nat.le_refl _) _⟩
    · by_cases h2 : k = 2
      · subst h2
        go_enter Try.func45, Try.ntmps45
        go_wp2_with fail
        go_ret
        exact ⟨by rw [Fr.right_neg ⟨2, i⟩ (show ¬ 0 ≤ i by omega)]; rfl, (Below.refl _ _).alloc (Nat.le_refl _) _⟩
      · have e1 : (k == 1) = false := by rw [beq_eq_false_iff_ne]; exact h1
        have e2 : (k == 2) = false := by rw [beq_eq_false_iff_ne]; exact h2
        go_enter Try.func45, Try.ntmps45
        go_wp2_with fail
        go_ret
        exact ⟨by simp [Fr.right, h1, h2], (Below.refl _ _).alloc (Nat.le_refl _) _⟩

set_option maxHeartbeats 400000 in
set_option maxRecDepth 100000 in
/-- wire.Put. -/
theorem Wire.put_calls (z : Fr) (w : World) :
    Calls Try.prog 47 #[.agg #[.int .i64 z.k, .int .i64 z.i]] w fun e w' => e = .returned (.string (Wire.put z)) ∧ Below w.heap.size w w' := by
  by_cases h3 : z.k = 3
  · have e3 : (z.k == 3) = true := by rw [beq_iff_eq]; exact h3
    have ep : Wire.put z = ⟨#[0]⟩ := if_pos h3
    generalize Wire.put z = q at *
    subst ep
    go_enter Try.func47, Try.ntmps47
    go_wp2_with fail
    go_ret
    exact ⟨rfl, (Below.refl _ _).alloc (Nat.le_refl _) _⟩
  · have e3 : (z.k == 3) = false := by rw [beq_eq_false_iff_ne]; exact h3
    cases hr : z.right with
    | false =>
      have ep : Wire.put z = ByteArray.empty := by unfold Wire.put; rw [if_neg h3, hr]; rfl
      have c := fun w => Wire.right_calls z w
      rw [hr] at c
      generalize Wire.put z = q at *
      subst ep
      go_enter Try.func47, Try.ntmps47
      go_wp2_with fail
      refine (c _).mono ?_
      rintro e w1 ⟨rfl, h1⟩
      go_wp2_with fail
      go_ret
      exact ⟨rfl, Kit.chain ((Below.refl _ _).alloc (Nat.le_refl _) _) h1⟩
    | true =>
      have ep := Wire.put_right hr
      have c := fun w => Wire.right_calls z w
      rw [hr] at c
      obtain ⟨a, b, ha, hb, rfl⟩ := Fr.right_nat hr
      have hf := Wire.body_facts a b ha hb
      have hcv := fun (w : World) => Kit.conv_back (P := Try.prog) 31 9 5 Try.underlying31 Try.underlying5 Try.underlying9 [216, (a : Int), (b : Int)] #[.int .u8 216, .int .u8 a, .int .u8 b] rfl 3 3 rfl w
      rw [show strOfNums [216, (a : Int), (b : Int)] = Wire.head a b from rfl] at hcv
      have hbody : Wire.body a b = Wire.head a b ++ Crc.four (Crc.sum (Wire.head a b).data.toList) := rfl
      have hsz : (Wire.head (a : Int) b).size ≤ 9223372036854775807 := by rw [hf.2.2.2]; decide
      have c2 := fun w => Crc.sum_calls (Wire.head a b) w hsz
      have c3 := fun w => Crc.four_calls (Crc.sum (Wire.head a b).data.toList) w (Crc.sum_lt _)
      rw [hbody] at ep
      have z4 : (Crc.four (Crc.sum (Wire.head a b).data.toList)).size = 4 := strOfNums_size _
      have z3 := hf.2.2.2
      clear hbody hf hr
      generalize Crc.sum (Wire.head a b).data.toList = q at *
      generalize Wire.put ⟨a, b⟩ = p at *
      generalize Wire.head a b = hd at *
      subst ep
      simp only at c e3
      go_enter Try.func47, Try.ntmps47
      go_wp2_with fail
      refine (c _).mono ?_
      rintro e w1 ⟨rfl, h1⟩
      have q0 := Kit.cell_new h1 0 rfl
      have q1 := Kit.cell_new h1 1 rfl
      go_wp2_with fail
      refine (c2 _).mono ?_
      rintro e w2 ⟨rfl, h2⟩
      go_wp2_with fail
      refine (c3 _).mono ?_
      rintro e w3 ⟨rfl, h3⟩
      go_wp2_with fail
      go_ret
      refine ⟨rfl, ?_⟩
      exact (Kit.chain ((Below.refl _ _).alloc (Nat.le_refl _) _) (Kit.chain h1 (Kit.chain ((Below.refl _ _).alloc (Nat.le_refl _) _) (Kit.chain h2 h3))))

/-- The three frames in Get's memory: the answer's, the noise, and what was read. -/
structure Wire.Three (W : World) (B : Nat) (b c : Int) : Prop where
  lt : B + 1 + 1 < W.heap.size
  p0 : W.cell? ⟨B, 0, none⟩ = some (.int .i64 0)
  p1 : W.cell? ⟨B, 1, none⟩ = some (.int .i64 0)
  p2 : W.frozen? ⟨B, 0, none⟩ = false
  p3 : W.frozen? ⟨B, 1, none⟩ = false
  p4 : W.cell? ⟨B + 1, 0, none⟩ = some (.int .i64 3)
  p5 : W.cell? ⟨B + 1, 1, none⟩ = some (.int .i64 0)
  p6 : W.cell? ⟨B + 1 + 1, 0, none⟩ = some (.int .i64 b)
  p7 : W.cell? ⟨B + 1 + 1, 1, none⟩ = some (.int .i64 c)
theorem Wire.Three.below {W W' : World} {B : Nat} {b c : Int} (h : Wire.Three W B b c) (hb : Below W.heap.size W W') : Wire.Three W' B b c where
  lt := Nat.lt_of_lt_of_le h.lt hb.size
  p0 := Kit.cell_below hb h.p0
  p1 := Kit.cell_below hb h.p1
  p2 := (hb.frozen (p := ⟨B, 0, none⟩) (by have := h.lt; show B < _; omega)).trans h.p2
  p3 := (hb.frozen (p := ⟨B, 1, none⟩) (by have := h.lt; show B < _; omega)).trans h.p3
  p4 := Kit.cell_below hb h.p4
  p5 := Kit.cell_below hb h.p5
  p6 := Kit.cell_below hb h.p6
  p7 := Kit.cell_below hb h.p7

set_option maxHeartbeats 1000000 in
set_option maxRecDepth 100000 in
/-- wire.Get. -/
theorem Wire.get_calls (s : ByteArray) (w : World) (hs : s.size ≤ 9223372036854775807) :
    Calls Try.prog 49 #[.string s] w fun e w' => e = .returned (.agg #[.int .i64 (Wire.get s).k, .int .i64 (Wire.get s).i]) ∧ Below w.heap.size w w' := by
  by_cases h0 : s.size = 0
  · have e0 := Kit.str_none h0
    subst e0
    rw [Wire.get_empty]
    go_enter Try.func49, Try.ntmps49
    go_wp2_with fail
    refine bodyPost_ret (v := .agg #[.int .i64 0, .int .i64 0]) (by simp [results, Try.results49, go_sem]) rfl ⟨rfl, ?_⟩
    exact ((Below.refl _ _).alloc (Nat.le_refl _) _).alloc (by simp) _
  · have e0 : s.toList.isEmpty = false := Kit.str_full h0
    by_cases h7 : s.size = 7
    · rw [Wire.get_seven s h7]
      by_cases h216 : s[0].toNat = 216
      · have e1 : ((s[0].toNat : Int) != 216) = false := by rw [bne_eq_false_iff_eq]; omega
        have b1 := (s[1]).toNat_lt
        have b2 := (s[2]).toNat_lt
        have hx1 : (s.extract 0 3).size ≤ 9223372036854775807 := by rw [ByteArray.size_extract]; omega
        have hx2 : (s.extract 3 7).size = 4 := by rw [ByteArray.size_extract]; omega
        have c1 := fun w => Crc.value_calls (s.extract 3 7) w hx2
        have c2 := fun w => Crc.sum_calls (s.extract 0 3) w hx1
        have c3 := fun w => Wire.right_calls ⟨(s[1].toNat : Int), (s[2].toNat : Int)⟩ w
        generalize hq : Crc.val (s.extract 3 7).data.toList = q at *
        generalize hr : Crc.sum (s.extract 0 3).data.toList = r at *
        generalize hg : Fr.right ⟨(s[1].toNat : Int), (s[2].toNat : Int)⟩ = g at *
        go_enter Try.func49, Try.ntmps49
        go_wp2_with fail
        go_region
        obtain ⟨W6, hW6⟩ : ∃ W6 : World, W6 = (((w.alloc (.cells #[.int .i64 0, .int .i64 0] 51)).alloc (.cells #[.int .i64 3, .int .i64 0] 51)).alloc (.cells #[.int .i64 s[1].toNat, .int .i64 s[2].toNat] 51)).drew := ⟨_, rfl⟩
        have B6 : Below w.heap.size w W6 := by rw [hW6]; exact ((((Below.refl _ _).alloc (Nat.le_refl _) _).alloc (by simp) _).alloc (by simp; omega) _).drew
        have n6 : w.heap.size + 1 + 1 < W6.heap.size := by rw [hW6]; simp
        have T6 : Wire.Three W6 w.heap.size s[1].toNat s[2].toNat := by
          refine ⟨n6, ?_, ?_, ?_, ?_, ?_, ?_, ?_, ?_⟩
          all_goals (rw [hW6]; go_simp; try rfl)
        have H6 := Lib.hid T6
        have HB6 := Lib.hid B6
        rw [← hW6]
        clear hW6 T6 B6 n6
        go_wp2_with fail
        refine (c1 _).mono ?_
        rintro e w1 ⟨rfl, h1⟩
        have H7 := Lib.hid (H6.out.below h1)
        have HB7 := Lib.hid (Kit.chain HB6.out h1)
        clear h1
        by_cases hqr : q = r
        · subst hqr
          go_wp2_with fail
          refine (c2 _).mono ?_
          rintro e w2 ⟨rfl, h2⟩
          have H8 := Lib.hid (H7.out.below h2)
          have HB8 := Lib.hid (Kit.chain HB7.out h2)
          obtain ⟨_, _, _, _, _, _, _, p6, p7⟩ := H8.out
          clear h2
          go_wp2_with fail
          refine (c3 _).mono ?_
          rintro e w3 ⟨rfl, h3⟩
          clear p6 p7
          obtain ⟨lt, p0, p1, p2, p3, p4, p5, p6, p7⟩ := H8.out.below h3
          have HB9 := Lib.hid (Kit.chain HB8.out h3)
          clear h3
          cases g with
          | true =>
            go_wp2_with fail
            refine bodyPost_ret (v := .agg #[.int .i64 s[1].toNat, .int .i64 s[2].toNat]) (by simp [results, Try.results49, go_sem, p0, p1]) rfl ⟨rfl, ?_⟩
            exact (HB9.out.setCell (by simp) _).setCell (by simp) _
          | false =>
            go_wp2_with fail
            refine bodyPost_ret (v := .agg #[.int .i64 3, .int .i64 0]) (by simp [results, Try.results49, go_sem, p0, p1]) rfl ⟨rfl, ?_⟩
            exact (HB9.out.setCell (by simp) _).setCell (by simp) _
        · have hqr' : ((q : Int) != r) = true := by rw [bne_iff_ne]; omega
          go_wp2_with fail
          refine (c2 _).mono ?_
          rintro e w2 ⟨rfl, h2⟩
          obtain ⟨lt, p0, p1, p2, p3, p4, p5, p6, p7⟩ := H7.out.below h2
          have HB8 := Lib.hid (Kit.chain HB7.out h2)
          clear h2
          go_wp2_with fail
          refine bodyPost_ret (v := .agg #[.int .i64 3, .int .i64 0]) (by simp [results, Try.results49, go_sem, p0, p1]) rfl ⟨rfl, ?_⟩
          exact (HB8.out.setCell (by simp) _).setCell (by simp) _
      · have e1 : ((s[0].toNat : Int) != 216) = true := by rw [bne_iff_ne]; omega
        rw [if_neg (fun h => h216 h.1)]
        go_enter Try.func49, Try.ntmps49
        go_wp2_with fail
        refine bodyPost_ret (v := .agg #[.int .i64 3, .int .i64 0]) (by simp [results, Try.results49, go_sem]) rfl ⟨rfl, ?_⟩
        exact ((Below.refl _ _).alloc (Nat.le_refl _) _).alloc (by simp) _
    · have e7 : ((s.size : Int) != 7) = true := by rw [bne_iff_ne]; omega
      rw [Wire.get_not_seven s h0 h7]
      go_enter Try.func49, Try.ntmps49
      go_wp2_with fail
      refine bodyPost_ret (v := .agg #[.int .i64 3, .int .i64 0]) (by simp [results, Try.results49, go_sem]) rfl ⟨rfl, ?_⟩
      exact ((Below.refl _ _).alloc (Nat.le_refl _) _).alloc (by simp) _
end Go.Proofs.Ytpbkoooljelhjaa
