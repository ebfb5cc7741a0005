/-
  The walks of package crc: Add, Sum, Four, Value.
-/
import Derived.Test.YtpbkoooljelhjaaProg
import Derived.Test.YtpbkoooljelhjaaCrc0
import Derived.Test.YtpbkoooljelhjaaKit0
import Derived.WalkKit
import Derived.WalkLawsBesides
import Derived.WalkSpells
import Derived.Lib.Hide
import Derived.Deep.LoopGhost
import Derived.Laws.IdiomStrings
import Derived.Deep.QuietTactic
import Derived.BigQuiet
namespace Go.Proofs.Ytpbkoooljelhjaa
set_option linter.unusedVariables false
set_option linter.unusedSimpArgs false
open Go.RowKit

set_option maxHeartbeats 400000 in
set_option maxRecDepth 100000 in
/-- crc.Add. -/
theorem Crc.add_calls (r b : Nat) (w : World) (hr : r < 4294967296) (hb : b < 256) :
    Calls Try.prog 28 #[.int .u32 r, .int .u8 b] w fun e w' => e = .returned (.int .u32 (Crc.add r b : Nat)) ∧ w = w' := by
  have hx := Crc.xor_go r b hr hb
  have HX := Lib.hid hx
  clear hx
  have hlt := Crc.xor_lt hr (show b < 4294967296 by omega)
  go_enter Try.func28, Try.ntmps28
  go_wp2
  go_loop [0, 9] (fun v i => ∃ k : Nat, k ≤ 8 ∧ i = .int .i64 k ∧ v = .int .u32 (Crc.it k (r ^^^ b) : Nat)) (fun _ i => 8 - (intOf i).toNat)
  case atStart => exact ⟨0, by omega, rfl, congrArg (Value.int .u32) HX.out⟩
  case round =>
    obtain ⟨k, hk, rfl, rfl⟩ := hrel
    have hl := Crc.it_lt k hlt
    have hs := Crc.st_go _ hl
    have HS := Lib.hid hs
    clear hs
    by_cases hlt : k < 8
    · go_wp2
      go_round
      case rel => exact ⟨k + 1, by omega, by go_num, by rw [Crc.it_succ', ← HS.out]⟩
      case measure => simp [intOf]; omega
    · obtain rfl : k = 8 := by omega
      go_wp2
      go_ret
      exact ⟨rfl, rfl⟩

set_option maxHeartbeats 400000 in
set_option maxRecDepth 100000 in
/-- crc.Sum. -/
theorem Crc.sum_calls (s : ByteArray) (w : World) (hs : s.size ≤ 9223372036854775807) :
    Calls Try.prog 26 #[.string s] w fun e w' => e = .returned (.int .u32 (Crc.sum s.data.toList : Nat)) ∧ Below w.heap.size w w' := by
  obtain ⟨cap, F, hrun, hF⟩ := Kit.conv_bytes (P := Try.prog) 9 31 5 Try.underlying9 Try.underlying31 Try.underlying5 s
  obtain ⟨hB, hz, hcell, _⟩ := hF w
  replace hrun := hrun w
  generalize F w = W1 at hrun hB hz hcell
  clear hF
  have HB := Lib.hid hB
  have HC := Lib.hid hcell
  have hl : s.data.toList.length = s.size := Array.length_toList
  have HL := Lib.hid hl
  clear hB hcell hz hl
  go_enter Try.func26, Try.ntmps26
  go_wp2_with fail
  go_loop [3, 9] (fun v i => ∃ k : Nat, k ≤ s.size ∧ i = .int .i64 k ∧ v = .int .u32 (Crc.from_ Crc.init (s.data.toList.take k) : Nat)) (fun _ i => s.size - (intOf i).toNat)
  case atStart => exact ⟨0, by omega, rfl, congrArg (Value.int .u32) (by rw [List.take_zero]; exact (congrArg Int.ofNat Crc.init_eq).symm)⟩
  case round =>
    obtain ⟨k, hk, rfl, rfl⟩ := hrel
    have hlt := Crc.from_lt Crc.init_lt (s.data.toList.take k)
    by_cases hk1 : k < s.size
    · have hkl : k < s.data.toList.length := by have := HL.out; omega
      have hc := HC.out k hkl
      have hb := (s.data.toList[k]).toNat_lt
      have hsn : Crc.from_ Crc.init (s.data.toList.take (k + 1)) = Crc.add (Crc.from_ Crc.init (s.data.toList.take k)) (s.data.toList[k]).toNat := by
        rw [List.take_succ_eq_append_getElem hkl, Crc.from_snoc]
      generalize Crc.from_ Crc.init (s.data.toList.take k) = r at *
      generalize s.data.toList[k] = b at *
      have HS := Lib.hid hsn
      clear hsn
      go_wp2_with (go_at_call 28; refine (Crc.add_calls _ _ _ hlt hb).mono ?_; rintro e w' ⟨rfl, rfl⟩)
      go_round
      case rel => exact ⟨k + 1, by omega, by go_num, by rw [HS.out]⟩
      case measure =>
        have hk2 : ((k : Int) + 1).toNat = k + 1 := by omega
        have hk3 : ((k : Int)).toNat = k := by omega
        show s.size - ((k : Int) + 1).toNat < s.size - ((k : Int)).toNat
        omega
    · obtain rfl : k = s.size := by omega
      have hle := Crc.from_le s.data.toList
      have ht : s.data.toList.take s.size = s.data.toList := List.take_of_length_le (by have := HL.out; omega)
      rw [ht] at hlt ⊢
      have hsum := (Crc.not_go _ hlt).trans (Crc.sum_int s.data.toList)
      have HM := Lib.hid hsum
      have hsg : IntKind.u32.signed = false := rfl
      clear hsum ht
      go_wp2_with fail
      go_ret
      exact ⟨by rw [← HM.out]; rfl, HB.out⟩

set_option maxHeartbeats 400000 in
set_option maxRecDepth 100000 in
/-- crc.Four. -/
theorem Crc.four_calls (n : Nat) (w : World) (hn : n < 4294967296) :
    Calls Try.prog 30 #[.int .u32 n] w fun e w' => e = .returned (.string (Crc.four n)) ∧ Below w.heap.size w w' := by
  have hcv := fun (w : World) => Kit.conv_back (P := Try.prog) 31 9 5 Try.underlying31 Try.underlying5 Try.underlying9 [(n : Int) / 16777216, (n : Int) / 65536 % 256, (n : Int) / 256 % 256, (n : Int) % 256]
    #[.int .u8 ((n : Int) / 16777216), .int .u8 ((n : Int) / 65536 % 256), .int .u8 ((n : Int) / 256 % 256), .int .u8 ((n : Int) % 256)] rfl 4 4 rfl w
  go_enter Try.func30, Try.ntmps30
  go_wp2_with fail
  go_ret
  exact ⟨rfl, (Below.refl _ _).alloc (Nat.le_refl _) _⟩

set_option maxHeartbeats 400000 in
set_option maxRecDepth 100000 in
/-- crc.Value of four bytes. -/
theorem Crc.value_calls (s : ByteArray) (w : World) (h : s.size = 4) :
    Calls Try.prog 24 #[.string s] w fun e w' => e = .returned (.tuple #[.int .u32 (Crc.val s.data.toList : Nat), .bool true]) ∧ Below w.heap.size w w' := by
  have hv : Go.bits .or .u32 (Go.bits .or .u32 (Go.bits .or .u32 ((s[0].toNat : Int) % 4294967296 * 16777216 % 4294967296) ((s[1].toNat : Int) % 4294967296 * 65536 % 4294967296)) ((s[2].toNat : Int) % 4294967296 * 256 % 4294967296)) ((s[3].toNat : Int) % 4294967296) = ((Crc.val s.data.toList : Nat) : Int) := by
    rw [Crc.val_go _ _ _ _ s[0].toNat_lt s[1].toNat_lt s[2].toNat_lt s[3].toNat_lt]
    have hl : s.data.toList.length = 4 := Array.length_toList.trans h
    unfold Crc.val
    simp only [List.getD_eq_getElem?_getD, List.getElem?_eq_getElem (show 0 < s.data.toList.length by omega), List.getElem?_eq_getElem (show 1 < s.data.toList.length by omega), List.getElem?_eq_getElem (show 2 < s.data.toList.length by omega), List.getElem?_eq_getElem (show 3 < s.data.toList.length by omega), Option.getD_some]
    rfl
  have HV := Lib.hid hv
  clear hv
  go_enter Try.func24, Try.ntmps24
  go_wp2_with fail
  go_quiet (fail)
  go_wp2_with fail
  go_ret2
  exact ⟨by rw [← HV.out]; rfl, Kit.below_drewN _ _⟩

set_option maxHeartbeats 400000 in
set_option maxRecDepth 100000 in
/-- crc.Value of another number of bytes. -/
theorem Crc.value_no (s : ByteArray) (w : World) (h : ¬ s.size = 4) :
    Calls Try.prog 24 #[.string s] w fun e w' => e = .returned (.tuple #[.int .u32 0, .bool false]) ∧ Below w.heap.size w w' := by
  have h' : ((s.size : Int) != 4) = true := by rw [bne_iff_ne]; omega
  go_enter Try.func24, Try.ntmps24
  go_wp2_with fail
  go_ret2
  exact ⟨rfl, Below.refl _ _⟩
end Go.Proofs.Ytpbkoooljelhjaa
