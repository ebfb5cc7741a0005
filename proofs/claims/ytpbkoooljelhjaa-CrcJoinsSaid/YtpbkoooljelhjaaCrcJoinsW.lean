/-
  CrcJoins: the walk of the statement's own function.
-/
import Derived.Test.YtpbkoooljelhjaaCrc2
namespace Go.Proofs.Ytpbkoooljelhjaa.CrcJoins
open Go.RowKit

theorem pure_end (s t : List UInt8) : (4294967295 : Int) - (Crc.from_ (Crc.from_ Crc.init s) t : Nat) = ((Crc.sum (s ++ t) : Nat) : Int) := by
  rw [← Crc.from_append]; exact Crc.sum_int _
theorem pure_start (s : List UInt8) : (4294967295 : Int) - (Crc.sum s : Nat) = ((Crc.from_ Crc.init s : Nat) : Int) := by
  have := Crc.sum_int s; omega

set_option maxHeartbeats 1000000 in
set_option maxRecDepth 100000 in
theorem walk (s t : ByteArray) (hs : s.size ≤ maxLen) (ht : t.size ≤ maxLen) (w : World) :
    Calls Try.prog 5 #[.string s, .string t] w fun e w' => e = .returned (.bool true) ∧ Below w.heap.size w w' := by
  unfold maxLen at hs ht
  by_cases h300 : s.size ≤ 300 ∧ t.size ≤ 300
  · obtain ⟨h1, h2⟩ := h300
    have c1 := fun w => Crc.sum_calls s w (by omega)
    have hst : (s ++ t).size ≤ 600 := by rw [ByteArray.size_append]; omega
    have hdat : (s ++ t).data.toList = s.data.toList ++ t.data.toList := by simp
    have c3 := fun w => Crc.sum_calls (s ++ t) w (by omega)
    rw [hdat] at c3
    have g1 := pure_start s.data.toList
    have g2 := pure_end s.data.toList t.data.toList
    have hlt := Crc.from_lt Crc.init_lt s.data.toList
    have hq := Crc.sum_lt s.data.toList
    generalize Crc.from_ Crc.init s.data.toList = r0 at *
    generalize Crc.sum s.data.toList = q at *
    generalize Crc.sum (s.data.toList ++ t.data.toList) = q2 at *
    have G1 := Lib.hid g1
    have G2 := Lib.hid g2
    have hl : t.data.toList.length = t.size := Array.length_toList
    have HL := Lib.hid hl
    clear g1 g2 hdat hl hst
    go_enter Try.func5, Try.ntmps5
    go_wp2_with fail
    refine (c1 _).mono ?_
    rintro e w1 ⟨rfl, b1⟩
    have B1 := Lib.hid b1
    clear b1
    go_wp2_with fail
    go_loop [5, 6] (fun v i => ∃ k : Nat, k ≤ t.size ∧ i = .int .i64 k ∧ v = .int .u32 (Crc.from_ r0 (t.data.toList.take k) : Nat)) (fun _ i => t.size - (intOf i).toNat)
    case atStart => exact ⟨0, by omega, rfl, congrArg (Value.int .u32) G1.out⟩
    case round =>
      obtain ⟨k, hk, rfl, rfl⟩ := hrel
      have hlt1 := Crc.from_lt hlt (t.data.toList.take k)
      by_cases hk1 : k < t.size
      · have hkl : k < t.data.toList.length := by have := HL.out; omega
        have hb := (t[k]).toNat_lt
        have hsn : Crc.from_ r0 (t.data.toList.take (k + 1)) = Crc.add (Crc.from_ r0 (t.data.toList.take k)) (t[k]).toNat := by
          rw [List.take_succ_eq_append_getElem hkl, Crc.from_snoc]
          rfl
        generalize Crc.from_ r0 (t.data.toList.take k) = r at *
        have HS := Lib.hid hsn
        clear hsn
        go_wp2_with (go_at_call 28; refine (Crc.add_calls _ _ _ hlt1 hb).mono ?_; rintro e w' ⟨rfl, rfl⟩)
        go_round
        case rel => exact ⟨k + 1, by omega, by go_num, by rw [HS.out]⟩
        case measure =>
          have hk2 : ((k : Int) + 1).toNat = k + 1 := by omega
          have hk3 : ((k : Int)).toNat = k := by omega
          show t.size - ((k : Int) + 1).toNat < t.size - ((k : Int)).toNat
          omega
      · obtain rfl : k = t.size := by omega
        have ht : t.data.toList.take t.size = t.data.toList := List.take_of_length_le (by have := HL.out; omega)
        rw [ht] at hlt1 ⊢
        have hg := G2.out
        clear ht G2
        have e2 : ((4294967295 : Int) - (Crc.from_ r0 t.data.toList : Nat) == (q2 : Int)) = true := by rw [beq_iff_eq]; exact hg
        clear hg
        go_wp2_with fail
        refine (Crc.awake_calls _).mono ?_
        rintro e w2 ⟨rfl, b2⟩
        have B2 := Lib.hid b2
        clear b2
        go_wp2_with fail
        refine (c3 _).mono ?_
        rintro e w3 ⟨rfl, b3⟩
        go_wp2_with fail
        go_ret
        exact ⟨rfl, Kit.chain B1.out (Kit.chain B2.out b3)⟩
  · by_cases h1 : 300 < s.size
    · go_enter Try.func5, Try.ntmps5
      go_wp2_with fail
      refine (Crc.awake_calls _).mono ?_
      rintro e w3 ⟨rfl, h3⟩
      go_wp2_with fail
      go_ret
      exact ⟨rfl, h3⟩
    · have h2 : 300 < t.size := by omega
      have h1' : s.size ≤ 300 := by omega
      clear h300 h1
      go_enter Try.func5, Try.ntmps5
      go_wp2_with fail
      refine (Crc.awake_calls _).mono ?_
      rintro e w3 ⟨rfl, h3⟩
      go_wp2_with fail
      go_ret
      exact ⟨rfl, h3⟩
end Go.Proofs.Ytpbkoooljelhjaa.CrcJoins
