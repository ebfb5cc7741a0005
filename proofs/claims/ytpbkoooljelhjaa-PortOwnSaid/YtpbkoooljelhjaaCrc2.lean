/-
  The walks of package daybreakref01 (Add, Sum, Four, Value), and the statements' own fixed fact (awake).
-/
import Derived.Test.YtpbkoooljelhjaaProg
import Derived.Test.YtpbkoooljelhjaaCrc1
import Derived.WalkKit
import Derived.WalkLawsBesides
import Derived.WalkSpells
import Derived.Lib.Hide
import Derived.Deep.LoopGhost
import Derived.Laws.IdiomStrings
import Derived.Deep.QuietTactic
import Derived.BigQuiet
namespace Go.Proofs.Ytpbkoooljelhjaa
set_option linter.unusedVariables false
set_option linter.unusedSimpArgs false
open Go.RowKit
set_option maxHeartbeats 400000 in
set_option maxRecDepth 100000 in
theorem Crc.radd_calls (r b : Nat) (w : World) (hr : r < 4294967296) (hb : b < 256) :
    Calls Try.prog 29 #[.int .u32 r, .int .u8 b] w fun e w' => e = .returned (.int .u32 (Crc.add r b : Nat)) ∧ w = w' := by
  have hx := Crc.xor_go r b hr hb
  have HX := Lib.hid hx
  clear hx
  have hlt := Crc.xor_lt hr (show b < 4294967296 by omega)
  go_enter Try.func29, Try.ntmps29
  go_wp2
  go_loop [0, 5] (fun v i => ∃ k : Nat, k ≤ 8 ∧ i = .int .i64 k ∧ v = .int .u32 (Crc.it k (r ^^^ b) : Nat)) (fun _ i => 8 - (intOf i).toNat)
  case atStart => exact ⟨0, by omega, rfl, congrArg (Value.int .u32) HX.out⟩
  case round =>
    obtain ⟨k, hk, rfl, rfl⟩ := hrel
    have hl := Crc.it_lt k hlt
    by_cases hlt : k < 8
    · by_cases e : Crc.it k (r ^^^ b) % 2 = 1
      · have hs := Crc.st_odd _ hl e
        have HS := Lib.hid hs
        have hm := Crc.it_succ' k (r ^^^ b)
        have HM := Lib.hid hm
        have e' : (((Crc.it k (r ^^^ b) : Nat) : Int) % 2 == 1) = true := by rw [beq_iff_eq]; omega
        clear hs hm e
        generalize Crc.it k (r ^^^ b) = q at *
        go_wp2
        go_round
        case rel => exact ⟨k + 1, by omega, by go_num, by rw [HM.out, ← HS.out]⟩
        case measure => simp [intOf]; omega
      · have hs := Crc.st_even _ e
        have HS := Lib.hid hs
        have hm := Crc.it_succ' k (r ^^^ b)
        have HM := Lib.hid hm
        have e' : (((Crc.it k (r ^^^ b) : Nat) : Int) % 2 == 1) = false := by rw [beq_eq_false_iff_ne]; omega
        clear hs hm e
        generalize Crc.it k (r ^^^ b) = q at *
        go_wp2
        go_round
        case rel => exact ⟨k + 1, by omega, by go_num, by rw [HM.out, ← HS.out]⟩
        case measure => simp [intOf]; omega
    · obtain rfl : k = 8 := by omega
      go_wp2
      go_ret
      exact ⟨rfl, rfl⟩

set_option maxHeartbeats 400000 in
set_option maxRecDepth 100000 in
theorem Crc.rsum_calls (s : ByteArray) (w : World) (hs : s.size ≤ 9223372036854775807) :
    Calls Try.prog 27 #[.string s] w fun e w' => e = .returned (.int .u32 (Crc.sum s.data.toList : Nat)) ∧ w = w' := by
  have hl : s.data.toList.length = s.size := Array.length_toList
  have HL := Lib.hid hl
  clear hl
  go_enter Try.func27, Try.ntmps27
  go_wp2_with fail
  go_loop [3, 4] (fun v i => ∃ k : Nat, k ≤ s.size ∧ i = .int .i64 k ∧ v = .int .u32 (Crc.from_ Crc.init (s.data.toList.take k) : Nat)) (fun _ i => s.size - (intOf i).toNat)
  case atStart => exact ⟨0, by omega, rfl, congrArg (Value.int .u32) (by rw [List.take_zero]; exact (congrArg Int.ofNat Crc.init_eq).symm)⟩
  case round =>
    obtain ⟨k, hk, rfl, rfl⟩ := hrel
    have hlt := Crc.from_lt Crc.init_lt (s.data.toList.take k)
    by_cases hk1 : k < s.size
    · have hkl : k < s.data.toList.length := by have := HL.out; omega
      have hb := (s[k]).toNat_lt
      have hsn : Crc.from_ Crc.init (s.data.toList.take (k + 1)) = Crc.add (Crc.from_ Crc.init (s.data.toList.take k)) (s[k]).toNat := by
        rw [List.take_succ_eq_append_getElem hkl, Crc.from_snoc]
        rfl
      generalize Crc.from_ Crc.init (s.data.toList.take k) = r at *
      have HS := Lib.hid hsn
      clear hsn
      go_wp2_with (go_at_call 29; refine (Crc.radd_calls _ _ _ hlt hb).mono ?_; rintro e w' ⟨rfl, rfl⟩)
      go_round
      case rel => exact ⟨k + 1, by omega, by go_num, by rw [HS.out]⟩
      case measure =>
        have hk2 : ((k : Int) + 1).toNat = k + 1 := by omega
        have hk3 : ((k : Int)).toNat = k := by omega
        show s.size - ((k : Int) + 1).toNat < s.size - ((k : Int)).toNat
        omega
    · obtain rfl : k = s.size := by omega
      have hle := Crc.from_le s.data.toList
      have ht : s.data.toList.take s.size = s.data.toList := List.take_of_length_le (by have := HL.out; omega)
      rw [ht] at hlt ⊢
      have hsum := Crc.sum_int s.data.toList
      have HM := Lib.hid hsum
      clear hsum ht
      go_wp2_with fail
      go_ret
      exact ⟨by rw [← HM.out]; rfl, rfl⟩

set_option maxHeartbeats 400000 in
set_option maxRecDepth 100000 in
theorem Crc.rfour_calls (n : Nat) (w : World) (hn : n < 4294967296) :
    Calls Try.prog 31 #[.int .u32 n] w fun e w' => e = .returned (.string (Crc.four n)) ∧ Below w.heap.size w w' := by
  have hcv := fun (w : World) => Kit.conv_back (P := Try.prog) 31 9 5 Try.underlying31 Try.underlying5 Try.underlying9 [(n : Int) / 16777216, (n : Int) / 65536 % 256, (n : Int) / 256 % 256, (n : Int) % 256]
    #[.int .u8 ((n : Int) / 16777216), .int .u8 ((n : Int) / 65536 % 256), .int .u8 ((n : Int) / 256 % 256), .int .u8 ((n : Int) % 256)] rfl 4 4 rfl w
  go_enter Try.func31, Try.ntmps31
  go_wp2_with fail
  go_ret
  exact ⟨rfl, (Below.refl _ _).alloc (Nat.le_refl _) _⟩

set_option maxHeartbeats 400000 in
set_option maxRecDepth 100000 in
theorem Crc.rvalue_calls (s : ByteArray) (w : World) (h : s.size = 4) :
    Calls Try.prog 25 #[.string s] w fun e w' => e = .returned (.tuple #[.int .u32 (Crc.val s.data.toList : Nat), .bool true]) ∧ w = w' := by
  have h4 : 4 ≤ s.size := by omega
  have h5 : s.size ≤ 4 := by omega
  have h' : ((s.size : Int) != 4) = false := by rw [bne_eq_false_iff_eq]; omega
  have hl : s.data.toList.length = 4 := Array.length_toList.trans h
  have HL := Lib.hid hl
  clear hl h
  go_enter Try.func25, Try.ntmps25
  go_wp2_with fail
  go_loop [4, 5] (fun v i => ∃ k : Nat, k ≤ 4 ∧ i = .int .i64 k ∧ v = .int .u32 (Crc.valTo s.data.toList k : Nat)) (fun _ i => 4 - (intOf i).toNat)
  case atStart => exact ⟨0, by omega, rfl, rfl⟩
  case round =>
    obtain ⟨k, hk, rfl, rfl⟩ := hrel
    by_cases hk1 : k < 4
    · have hlt := Crc.valTo_lt3 s.data.toList k hk1
      have hks : k < s.size := by omega
      have hb := (s[k]).toNat_lt
      have hsn : Crc.valTo s.data.toList (k + 1) = 256 * Crc.valTo s.data.toList k + (s[k]).toNat := by
        rw [Crc.valTo, List.getD_eq_getElem?_getD, List.getElem?_eq_getElem (by have := HL.out; omega)]
        rfl
      generalize Crc.valTo s.data.toList k = r at *
      have HS := Lib.hid hsn
      clear hsn
      go_wp2_with fail
      go_round
      case rel => exact ⟨k + 1, by omega, by go_num, by rw [HS.out]; go_num⟩
      case measure => simp [intOf]; omega
    · obtain rfl : k = 4 := by omega
      have hv := Crc.valTo_four s.data.toList
      have HV := Lib.hid hv
      clear hv
      go_wp2_with fail
      go_ret2
      exact ⟨by rw [← HV.out]; rfl, rfl⟩

set_option maxHeartbeats 400000 in
set_option maxRecDepth 100000 in
theorem Crc.rvalue_no (s : ByteArray) (w : World) (h : ¬ s.size = 4) :
    Calls Try.prog 25 #[.string s] w fun e w' => e = .returned (.tuple #[.int .u32 0, .bool false]) ∧ w = w' := by
  have h' : ((s.size : Int) != 4) = true := by rw [bne_iff_ne]; omega
  go_enter Try.func25, Try.ntmps25
  go_wp2_with fail
  go_ret2
  exact ⟨rfl, rfl⟩

theorem Crc.nine : Crc.sum [49, 50, 51, 52, 53, 54, 55, 56, 57] = 3421780262 := by decide +kernel
theorem Crc.nine_four : (Crc.four 3421780262).size = 4 ∧ Crc.val (Crc.four 3421780262).data.toList = 3421780262 := by decide +kernel

set_option maxHeartbeats 400000 in
set_option maxRecDepth 100000 in
/-- The document's example. -/
theorem Crc.awake_calls (w : World) :
    Calls Try.prog 23 #[] w fun e w' => e = .returned (.bool true) ∧ Below w.heap.size w w' := by
  have c1 := fun w => Crc.four_calls 3421780262 w (by omega)
  have c2 := fun w => Crc.value_calls (Crc.four 3421780262) w Crc.nine_four.1
  have c3 := fun w => Crc.sum_calls ⟨#[49, 50, 51, 52, 53, 54, 55, 56, 57]⟩ w (by decide)
  rw [Crc.nine_four.2] at c2
  rw [show (⟨#[49, 50, 51, 52, 53, 54, 55, 56, 57]⟩ : ByteArray).data.toList = [49, 50, 51, 52, 53, 54, 55, 56, 57] from rfl, Crc.nine] at c3
  generalize Crc.four 3421780262 = q at *
  go_enter Try.func23, Try.ntmps23
  go_wp2_with fail
  refine (c1 _).mono ?_
  rintro e w1 ⟨rfl, h1⟩
  go_wp2_with fail
  refine (c2 _).mono ?_
  rintro e w2 ⟨rfl, h2⟩
  go_wp2_with fail
  refine (c3 _).mono ?_
  rintro e w3 ⟨rfl, h3⟩
  go_wp2_with fail
  go_ret
  exact ⟨rfl, Kit.chain h1 (Kit.chain h2 h3)⟩
end Go.Proofs.Ytpbkoooljelhjaa
