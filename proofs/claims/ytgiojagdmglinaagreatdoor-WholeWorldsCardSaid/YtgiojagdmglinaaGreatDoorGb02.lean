/-
  Part 2 of a merged text.
-/
import Derived.Test.YtgiojagdmglinaaGreatDoorProg
import Derived.Test.YtgiojagdmglinaaGreatDoorGb01
import Derived.Test.YtgiojagdmglinaaGreatDoorGb00
import Derived.WalkKit
import Derived.WalkLawsBesides
import Derived.WalkSpells
import Derived.Lib.Hide
import Derived.Deep.LoopGhost
import Derived.Laws.IdiomStrings
import Derived.Deep.QuietTactic
import Derived.BigQuiet
import Derived.Lib.Strings
import Derived.BigRegion
set_option linter.unusedVariables false
set_option linter.unusedSimpArgs false
set_option maxRecDepth 100000
namespace Go.Proofs.YtgiojagdmglinaaGreatDoor
open Go.RowKit
set_option maxHeartbeats 400000 in
theorem Crc.add_calls (r b : Nat) (w : World) (hr : r < 4294967296) (hb : b < 256) :
  Calls Tryz.prog 123 #[.int .u32 r, .int .u8 b] w fun e w' => e = .returned (.int .u32 (Crc.add r b : Nat)) ∧ w = w' := by
 have hx := Crc.xor_go r b hr hb
 have HX := Lib.hid hx
 clear hx
 have hlt := Crc.xor_lt hr (show b < 4294967296 by omega)
 go_enter Tryz.func123, Tryz.ntmps123
 go_wp2
 go_loop [0, 9] (fun v i => ∃ k : Nat, k ≤ 8 ∧ i = .int .i64 k ∧ v = .int .u32 (Crc.it k (r ^^^ b) : Nat)) (fun _ i => 8 - (intOf i).toNat)
 case atStart => exact ⟨0, by omega, rfl, congrArg (Value.int .u32) HX.out⟩
 case round =>
  obtain ⟨k, hk, rfl, rfl⟩ := hrel
  have hl := Crc.it_lt k hlt
  have hs := Crc.st_go _ hl
  have HS := Lib.hid hs
  clear hs
  by_cases hlt : k < 8
  ·go_wp2
   go_round
   case rel => exact ⟨k + 1, by omega, by go_num, by rw [Crc.it_succ', ← HS.out]⟩
   case measure => simp [intOf]; omega
  ·obtain rfl : k = 8 := by omega
   go_wp2
   go_ret
   exact ⟨rfl, rfl⟩
set_option maxHeartbeats 400000 in
theorem Crc.sum_calls (s : ByteArray) (w : World) (hs : s.size ≤ 9223372036854775807) :
  Calls Tryz.prog 112 #[.string s] w fun e w' => e = .returned (.int .u32 (Crc.sum s.data.toList : Nat)) ∧ Below w.heap.size w w' := by
 obtain ⟨cap, F, hrun, hF⟩ := Kit.conv_bytes (P := Tryz.prog) 9 94 5 Tryz.underlying9 Tryz.underlying94 Tryz.underlying5 s
 obtain ⟨hB, hz, hcell, _⟩ := hF w
 replace hrun := hrun w
 generalize F w = W1 at hrun hB hz hcell
 clear hF
 have HB := Lib.hid hB
 have HC := Lib.hid hcell
 have hl : s.data.toList.length = s.size := Array.length_toList
 have HL := Lib.hid hl
 clear hB hcell hz hl
 go_enter Tryz.func112, Tryz.ntmps112
 go_wp2_with fail
 go_loop [3, 9] (fun v i => ∃ k : Nat, k ≤ s.size ∧ i = .int .i64 k ∧ v = .int .u32 (Crc.from_ Crc.init (s.data.toList.take k) : Nat)) (fun _ i => s.size - (intOf i).toNat)
 case atStart => exact ⟨0, by omega, rfl, congrArg (Value.int .u32) (by rw [List.take_zero]; exact (congrArg Int.ofNat Crc.init_eq).symm)⟩
 case round =>
  obtain ⟨k, hk, rfl, rfl⟩ := hrel
  have hlt := Crc.from_lt Crc.init_lt (s.data.toList.take k)
  by_cases hk1 : k < s.size
  ·have hkl : k < s.data.toList.length := by have := HL.out; omega
   have hc := HC.out k hkl
   have hb := (s.data.toList[k]).toNat_lt
   have hsn : Crc.from_ Crc.init (s.data.toList.take (k + 1)) = Crc.add (Crc.from_ Crc.init (s.data.toList.take k)) (s.data.toList[k]).toNat := by
    rw [List.take_succ_eq_append_getElem hkl, Crc.from_snoc]
   generalize Crc.from_ Crc.init (s.data.toList.take k) = r at *
   generalize s.data.toList[k] = b at *
   have HS := Lib.hid hsn
   clear hsn
   go_wp2_with (go_at_call 123; refine (Crc.add_calls _ _ _ hlt hb).mono ?_; rintro e w' ⟨rfl, rfl⟩)
   go_round
   case rel => exact ⟨k + 1, by omega, by go_num, by rw [HS.out]⟩
   case measure =>
    have hk2 : ((k : Int) + 1).toNat = k + 1 := by omega
    have hk3 : ((k : Int)).toNat = k := by omega
    show s.size - ((k : Int) + 1).toNat < s.size - ((k : Int)).toNat
    omega
  ·obtain rfl : k = s.size := by omega
   have hle := Crc.from_le s.data.toList
   have ht : s.data.toList.take s.size = s.data.toList := List.take_of_length_le (by have := HL.out; omega)
   rw [ht] at hlt ⊢
   have hsum := (Crc.not_go _ hlt).trans (Crc.sum_int s.data.toList)
   have HM := Lib.hid hsum
   have hsg : IntKind.u32.signed = false := rfl
   clear hsum ht
   go_wp2_with fail
   go_ret
   exact ⟨by rw [← HM.out]; rfl, HB.out⟩
set_option maxHeartbeats 400000 in
theorem Crc.four_calls (n : Nat) (w : World) (hn : n < 4294967296) :
  Calls Tryz.prog 111 #[.int .u32 n] w fun e w' => e = .returned (.string (Crc.four n)) ∧ Below w.heap.size w w' := by
 have hcv := fun (w : World) => Kit.conv_back (P := Tryz.prog) 94 9 5 Tryz.underlying94 Tryz.underlying5 Tryz.underlying9 [(n : Int) / 16777216, (n : Int) / 65536 % 256, (n : Int) / 256 % 256, (n : Int) % 256]
  #[.int .u8 ((n : Int) / 16777216), .int .u8 ((n : Int) / 65536 % 256), .int .u8 ((n : Int) / 256 % 256), .int .u8 ((n : Int) % 256)] rfl 4 4 rfl w
 go_enter Tryz.func111, Tryz.ntmps111
 go_wp2_with fail
 go_ret
 exact ⟨rfl, (Below.refl _ _).alloc (Nat.le_refl _) _⟩
set_option maxHeartbeats 400000 in
theorem Crc.value_calls (s : ByteArray) (w : World) (h : s.size = 4) :
  Calls Tryz.prog 113 #[.string s] w fun e w' => e = .returned (.tuple #[.int .u32 (Crc.val s.data.toList : Nat), .bool true]) ∧ Below w.heap.size w w' := by
 have hv : Go.bits .or .u32 (Go.bits .or .u32 (Go.bits .or .u32 ((s[0].toNat : Int) % 4294967296 * 16777216 % 4294967296) ((s[1].toNat : Int) % 4294967296 * 65536 % 4294967296)) ((s[2].toNat : Int) % 4294967296 * 256 % 4294967296)) ((s[3].toNat : Int) % 4294967296) = ((Crc.val s.data.toList : Nat) : Int) := by
  rw [Crc.val_go _ _ _ _ s[0].toNat_lt s[1].toNat_lt s[2].toNat_lt s[3].toNat_lt]
  have hl : s.data.toList.length = 4 := Array.length_toList.trans h
  unfold Crc.val
  simp only [List.getD_eq_getElem?_getD, List.getElem?_eq_getElem (show 0 < s.data.toList.length by omega), List.getElem?_eq_getElem (show 1 < s.data.toList.length by omega), List.getElem?_eq_getElem (show 2 < s.data.toList.length by omega), List.getElem?_eq_getElem (show 3 < s.data.toList.length by omega), Option.getD_some]
  rfl
 have HV := Lib.hid hv
 clear hv
 go_enter Tryz.func113, Tryz.ntmps113
 go_wp2_with fail
 go_quiet (fail)
 go_wp2_with fail
 go_ret2
 exact ⟨by rw [← HV.out]; rfl, Kit.below_drewN _ _⟩
set_option maxHeartbeats 400000 in
theorem Crc.value_no (s : ByteArray) (w : World) (h : ¬ s.size = 4) :
  Calls Tryz.prog 113 #[.string s] w fun e w' => e = .returned (.tuple #[.int .u32 0, .bool false]) ∧ Below w.heap.size w w' := by
 have h' : ((s.size : Int) != 4) = true := by rw [bne_iff_ne]; omega
 go_enter Tryz.func113, Tryz.ntmps113
 go_wp2_with fail
 go_ret2
 exact ⟨rfl, Below.refl _ _⟩
end Go.Proofs.YtgiojagdmglinaaGreatDoor
namespace Go.Proofs.YtgiojagdmglinaaGreatDoor
namespace Crc
theorem st_xor (a b : Nat) : st (a ^^^ b) = st a ^^^ st b := by
 have hd : (a ^^^ b) / 2 = a / 2 ^^^ b / 2 := Nat.xor_div_two
 have hm : (a ^^^ b) % 2 = (a + b) % 2 := by
  have := @Nat.xor_mod_two_eq_one a b
  by_cases h : (a ^^^ b) % 2 = 1
  ·have := this.1 h; omega
  ·have : ¬ ¬ (a % 2 = 1 ↔ b % 2 = 1) := fun h2 => h (this.2 h2)
   omega
 have assoc4 : ∀ x y p : Nat, (x ^^^ p) ^^^ (y ^^^ p) = x ^^^ y := fun x y p => by
  rw [Nat.xor_assoc, Nat.xor_comm y p, ← Nat.xor_assoc p p y, Nat.xor_self, Nat.zero_xor]
 unfold st
 rw [hd]
 by_cases ha : a % 2 = 1 <;> by_cases hb : b % 2 = 1
 ·rw [if_neg (by omega), if_pos ha, if_pos hb, assoc4]
 ·rw [if_pos (by omega), if_pos ha, if_neg hb, Nat.xor_assoc, Nat.xor_assoc, Nat.xor_comm (b / 2)]
 ·rw [if_pos (by omega), if_neg ha, if_pos hb, Nat.xor_assoc]
 ·rw [if_neg (by omega), if_neg ha, if_neg hb]
theorem it_xor (k a b : Nat) : it k (a ^^^ b) = it k a ^^^ it k b := by
 induction k generalizing a b with
 | zero => rfl
 | succ k ih => rw [it, it, it, st_xor, ih]
theorem it_add (j k r : Nat) : it (j + k) r = it j (it k r) := by
 induction k generalizing r with
 | zero => rfl
 | succ k ih => rw [show j + (k + 1) = (j + k) + 1 from rfl, it, it, ih]
theorem it_shift (k p : Nat) : it k (2 ^ k * p) = p := by
 induction k generalizing p with
 | zero => simp [it]
 | succ k ih =>
  have h : st (2 ^ (k + 1) * p) = 2 ^ k * p := by
   have e : 2 ^ (k + 1) * p = 2 * (2 ^ k * p) := by rw [Nat.pow_succ, Nat.mul_comm (2 ^ k) 2, Nat.mul_assoc]
   unfold st
   rw [e, if_neg (by omega)]
   omega
  rw [it, h, ih]
theorem st_ne {r : Nat} (h : r < 4294967296) (h0 : r ≠ 0) : st r ≠ 0 := by
 unfold st
 split
 ·intro e
  have h1 : (r / 2) ^^^ 3988292384 ^^^ 3988292384 = 0 ^^^ 3988292384 := by rw [e]
  rw [Nat.xor_assoc, Nat.xor_self, Nat.xor_zero, Nat.zero_xor] at h1
  omega
 ·omega
theorem it_ne (k : Nat) {r : Nat} (h : r < 4294967296) (h0 : r ≠ 0) : it k r ≠ 0 := by
 induction k generalizing r with
 | zero => exact h0
 | succ k ih => exact ih (st_lt h) (st_ne h h0)
def num : List Nat → Nat
 | [] => 0
 | b :: l => b ^^^ 256 * num l
theorem mul256_xor (a b : Nat) : 256 * (a ^^^ b) = 256 * a ^^^ 256 * b := by
 have h : ∀ x : Nat, 256 * x = x <<< 8 := fun x => by rw [Nat.shiftLeft_eq]; omega
 rw [h, h, h, Nat.shiftLeft_xor_distrib]
theorem from_num (r : Nat) (l : List UInt8) : from_ r l = it (8 * l.length) (r ^^^ num (l.map UInt8.toNat)) := by
 induction l generalizing r with
 | nil => simp [from_, it, num]
 | cons b l ih =>
  have h1 : from_ r (b :: l) = from_ (add r b.toNat) l := rfl
  have h2 : it 8 (256 * num (l.map UInt8.toNat)) = num (l.map UInt8.toNat) := it_shift 8 _
  rw [h1, ih, List.length_cons, show 8 * (l.length + 1) = 8 * l.length + 8 from by omega, it_add]
  rw [List.map_cons, num, ← Nat.xor_assoc, it_xor 8, h2]
  rfl
theorem num_set (l : List Nat) (j m : Nat) (h : j < l.length) : num (l.set j (l.getD j 0 ^^^ m)) = num l ^^^ 2 ^ (8 * j) * m := by
 induction l generalizing j with
 | nil => simp at h
 | cons b l ih =>
  cases j with
  | zero =>
   simp only [List.set_cons_zero, num, List.getD_cons_zero, Nat.mul_zero, Nat.pow_zero, Nat.one_mul]
   rw [Nat.xor_assoc, Nat.xor_assoc, Nat.xor_comm m]
  | succ j =>
   have h' : j < l.length := by simpa using h
   have e : 2 ^ (8 * (j + 1)) * m = 256 * (2 ^ (8 * j) * m) := by
    rw [show 8 * (j + 1) = 8 * j + 8 from by omega, Nat.pow_add, show (2 : Nat) ^ 8 = 256 from rfl, Nat.mul_comm (2 ^ (8 * j)) 256, Nat.mul_assoc]
   simp only [List.set_cons_succ, num, List.getD_cons_succ]
   rw [ih j h', e, mul256_xor, Nat.xor_assoc]
theorem burst (s t : List UInt8) (hl : t.length = s.length) (from0 p : Nat) (hf : from0 ≤ 8 * s.length) (hp : p < 4294967296)
  (h : num (t.map UInt8.toNat) = num (s.map UInt8.toNat) ^^^ 2 ^ from0 * p) : (sum t = sum s) ↔ p = 0 := by
 have h1 : from_ init t ^^^ from_ init s = it (8 * s.length - from0) p := by
  rw [from_num, from_num, hl, h, ← it_xor]
  have e : init ^^^ (num (s.map UInt8.toNat) ^^^ 2 ^ from0 * p) ^^^ (init ^^^ num (s.map UInt8.toNat)) = 2 ^ from0 * p := by
   rw [← Nat.xor_assoc init, Nat.xor_comm (init ^^^ num (s.map UInt8.toNat)) (2 ^ from0 * p), Nat.xor_assoc, Nat.xor_self, Nat.xor_zero]
  rw [e]
  have e2 : 8 * s.length = (8 * s.length - from0) + from0 := by omega
  conv => lhs; rw [e2]
  rw [it_add, it_shift]
 have ht := from_le t
 have hs := from_le s
 constructor
 ·intro he
  have he2 : from_ init t = from_ init s := by
   have a := sum_back t
   have b := sum_back s
   rw [← a, ← b, he]
  rw [he2, Nat.xor_self] at h1
  by_cases h0 : p = 0
  ·exact h0
  ·exact absurd h1.symm (it_ne _ hp h0)
 ·intro h0
  have h2 : it (8 * s.length - from0) 0 = 0 := by
   have := it_shift (8 * s.length - from0) 0
   rwa [Nat.mul_zero] at this
  rw [h0, h2] at h1
  have h3 : from_ init t = from_ init s := by
   have h4 : (from_ init t ^^^ from_ init s) ^^^ from_ init s = 0 ^^^ from_ init s := by rw [h1]
   rwa [Nat.xor_assoc, Nat.xor_self, Nat.xor_zero, Nat.zero_xor] at h4
  unfold sum
  rw [h3]
theorem pow_xor (f a b : Nat) : 2 ^ f * (a ^^^ b) = 2 ^ f * a ^^^ 2 ^ f * b := by
 have h : ∀ x : Nat, 2 ^ f * x = x <<< f := fun x => by rw [Nat.shiftLeft_eq, Nat.mul_comm]
 rw [h, h, h, Nat.shiftLeft_xor_distrib]
theorem mod_zero (b i : Nat) (h : b / 2 ^ i % 2 = 0) : b % 2 ^ (i + 1) = b % 2 ^ i := by
 rw [Nat.pow_succ, Nat.mod_mul, h, Nat.mul_zero, Nat.add_zero]
theorem mod_one (b i : Nat) (h : b / 2 ^ i % 2 = 1) : b % 2 ^ (i + 1) = b % 2 ^ i + 2 ^ i := by
 rw [Nat.pow_succ, Nat.mod_mul, h, Nat.mul_one]
theorem mod_one_xor (b i : Nat) (h : b / 2 ^ i % 2 = 1) : b % 2 ^ (i + 1) = 2 ^ i ^^^ b % 2 ^ i := by
 have hlt : b % 2 ^ i < 2 ^ i := Nat.mod_lt _ (Nat.two_pow_pos i)
 rw [mod_one b i h]
 have h1 := Nat.two_pow_add_eq_or_of_lt hlt 1
 rw [Nat.mul_one] at h1
 rw [Nat.add_comm, h1]
 apply Nat.eq_of_testBit_eq
 intro j
 rw [Nat.testBit_or, Nat.testBit_xor]
 by_cases hj : j = i
 ·subst hj
  rw [Nat.testBit_lt_two_pow hlt]; simp
 ·have : (2 ^ i).testBit j = false := by rw [Nat.testBit_two_pow]; simp; omega
  rw [this]; simp
theorem flip_num (L : List Nat) (N f b i : Nat) (hL : (f + i) / 8 < L.length) (h : num L = N ^^^ 2 ^ f * (b % 2 ^ i)) (hb : b / 2 ^ i % 2 = 1) :
  num (L.set ((f + i) / 8) (L.getD ((f + i) / 8) 0 ^^^ 2 ^ ((f + i) % 8))) = N ^^^ 2 ^ f * (b % 2 ^ (i + 1)) := by
 have e : 2 ^ (8 * ((f + i) / 8)) * 2 ^ ((f + i) % 8) = 2 ^ f * 2 ^ i := by
  rw [← Nat.pow_add, ← Nat.pow_add]; congr 1; omega
 rw [num_set L _ _ hL, e, h, mod_one_xor b i hb, pow_xor, Nat.xor_assoc, Nat.xor_comm (2 ^ f * 2 ^ i)]
theorem flip_lt (L : List Nat) (k m : Nat) (h : ∀ x ∈ L, x < 256) (hk : k < L.length) (hm : m < 256) : ∀ x ∈ L.set k (L.getD k 0 ^^^ m), x < 256 := by
 intro x hx
 rcases List.mem_or_eq_of_mem_set hx with h1 | h1
 ·exact h x h1
 ·rw [h1]
  refine Nat.xor_lt_two_pow (n := 8) ?_ hm
  rw [List.getD_eq_getElem?_getD, List.getElem?_eq_getElem hk]
  exact h _ (List.getElem_mem hk)
theorem getD_lt (L : List Nat) (k : Nat) (h : ∀ x ∈ L, x < 256) : L.getD k 0 < 256 := by
 rw [List.getD_eq_getElem?_getD]
 by_cases hk : k < L.length
 ·rw [List.getElem?_eq_getElem hk]; exact h _ (List.getElem_mem hk)
 ·rw [List.getElem?_eq_none (by omega)]; simp
theorem pow_lt8 (m : Nat) (h : m ≤ 7) : 2 ^ m < 256 := by
 have := Nat.pow_le_pow_right (show 1 ≤ 2 by omega) h
 have e : (2 : Nat) ^ 7 = 128 := rfl
 omega
theorem pow_lt7 (m : Nat) (h : m < 7) : 2 ^ m < 128 := by
 have := Nat.pow_le_pow_right (show 1 ≤ 2 by omega) (show m ≤ 6 by omega)
 have e : (2 : Nat) ^ 6 = 64 := rfl
 omega
theorem getD_set_self (L : List Nat) (j x : Nat) (h : j < L.length) : (L.set j x).getD j 0 = x := by
 rw [List.getD_eq_getElem?_getD, List.getElem?_set_self h]; rfl
theorem getD_set_ne (L : List Nat) (j d x : Nat) (h : j ≠ d) : (L.set d x).getD j 0 = L.getD j 0 := by
 rw [List.getD_eq_getElem?_getD, List.getElem?_set_ne (fun e => h e.symm), ← List.getD_eq_getElem?_getD]
theorem nums_back (L : List Nat) (h : ∀ x ∈ L, x < 256) : ((Go.strOfNums (L.map Int.ofNat)).data.toList).map UInt8.toNat = L := by
 rw [Go.strOfNums_data, List.map_map, List.map_map]
 conv => rhs; rw [← List.map_id L]
 apply List.map_congr_left
 intro x hx
 have := h x hx
 show (UInt8.ofNat (Int.toNat (Int.ofNat x))).toNat = x
 rw [show Int.toNat (Int.ofNat x) = x from rfl, UInt8.toNat_ofNat']
 omega
end Crc
end Go.Proofs.YtgiojagdmglinaaGreatDoor
namespace Go.Proofs.YtgiojagdmglinaaGreatDoor
structure Fr where
 k : Int
 i : Int
deriving DecidableEq
namespace Fr
def cells (z : Fr) : List Value := [.int .i64 z.k, .int .i64 z.i]
def val (z : Fr) : Value := .agg #[.int .i64 z.k, .int .i64 z.i]
def fits (z : Fr) : Prop := -9223372036854775808 ≤ z.k ∧ z.k ≤ 9223372036854775807 ∧ -9223372036854775808 ≤ z.i ∧ z.i ≤ 9223372036854775807
def right (z : Fr) : Bool := (z.k == 1 || z.k == 2) && (decide (0 ≤ z.i) && decide (z.i < 8))
def none : Fr := ⟨0, 0⟩
def noise : Fr := ⟨3, 0⟩
theorem right_iff (z : Fr) : z.right = true ↔ (z.k = 1 ∨ z.k = 2) ∧ 0 ≤ z.i ∧ z.i < 8 := by simp [right]
theorem right_neg (z : Fr) (h : ¬ 0 ≤ z.i) : z.right = false := by unfold right; rw [decide_eq_false h]; simp
theorem right_nat {z : Fr} (h : z.right = true) : ∃ a b : Nat, (a = 1 ∨ a = 2) ∧ b < 8 ∧ z = ⟨a, b⟩ := by
 obtain ⟨h1, h2, h3⟩ := (right_iff z).1 h
 obtain ⟨k, i⟩ := z
 obtain ⟨b, rfl⟩ := Int.eq_ofNat_of_zero_le h2
 rcases h1 with rfl | rfl
 ·exact ⟨1, b, Or.inl rfl, by simp at h3; omega, rfl⟩
 ·exact ⟨2, b, Or.inr rfl, by simp at h3; omega, rfl⟩
end Fr
namespace Wire
def head (a b : Int) : ByteArray := Go.strOfNums [216, a, b]
def body (a b : Int) : ByteArray := head a b ++ Crc.four (Crc.sum (head a b).data.toList)
def put (z : Fr) : ByteArray := if z.k = 3 then ⟨#[0]⟩ else if z.right then body z.k z.i else ByteArray.empty
def getL (l : List UInt8) : Fr :=
 if l = [] then Fr.none
 else if l.length = 7 ∧ l.getD 0 0 = 216 ∧ Crc.val (l.drop 3) = Crc.sum (l.take 3) ∧ Fr.right ⟨(l.getD 1 0).toNat, (l.getD 2 0).toNat⟩ = true then ⟨(l.getD 1 0).toNat, (l.getD 2 0).toNat⟩
 else Fr.noise
def get (s : ByteArray) : Fr := getL s.data.toList
theorem fr16 (p : Nat → Nat → Bool) (h : (List.range 8).all (fun b => p 1 b && p 2 b) = true) (a b : Nat) (ha : a = 1 ∨ a = 2) (hb : b < 8) : p a b = true := by
 have h1 := List.all_eq_true.1 h b (List.mem_range.2 hb)
 rw [Bool.and_eq_true] at h1
 rcases ha with rfl | rfl
 ·exact h1.1
 ·exact h1.2
theorem body_facts (a b : Nat) (ha : a = 1 ∨ a = 2) (hb : b < 8) : (body a b).size = 7 ∧ (body a b).data.toList.getD 0 0 = 216 ∧ get (body a b) = ⟨a, b⟩ ∧ (head a b).size = 3 := by
 have h := fr16 (fun a b => decide ((body a b).size = 7 ∧ (body a b).data.toList.getD 0 0 = 216 ∧ get (body a b) = ⟨a, b⟩ ∧ (head a b).size = 3)) (by decide +kernel) a b ha hb
 exact of_decide_eq_true h
def flipped (s : ByteArray) (k : Nat) : List Nat := (s.data.toList.map UInt8.toNat).set (k / 8) ((s.data.toList.map UInt8.toNat).getD (k / 8) 0 ^^^ 2 ^ (k % 8))
theorem flip_facts (a b : Nat) (ha : a = 1 ∨ a = 2) (hb : b < 8) (k : Nat) (hk : k < 56) : get (Go.strOfNums ((flipped (body a b) k).map Int.ofNat)) = Fr.noise := by
 have h := fr16 (fun a b => (List.range 56).all fun k => decide (get (Go.strOfNums ((flipped (body a b) k).map Int.ofNat)) = Fr.noise)) (by decide +kernel) a b ha hb
 exact of_decide_eq_true (List.all_eq_true.1 h k (List.mem_range.2 hk))
theorem four_val (d e f g : UInt8) : (Crc.four (Crc.val [d, e, f, g])).data.toList = [d, e, f, g] := by
 have hd := d.toNat_lt
 have he := e.toNat_lt
 have hf := f.toNat_lt
 have hg := g.toNat_lt
 have hv : Crc.val [d, e, f, g] = (d.toNat * 256 + e.toNat) * 65536 + f.toNat * 256 + g.toNat := rfl
 have h1 : Crc.four (Crc.val [d, e, f, g]) = Go.strOfNums ([d.toNat, e.toNat, f.toNat, g.toNat].map Int.ofNat) := by
  unfold Crc.four
  have e1 : ((Crc.val [d, e, f, g] : Nat) : Int) / 16777216 = Int.ofNat d.toNat := by rw [hv]; simp; omega
  have e2 : ((Crc.val [d, e, f, g] : Nat) : Int) / 65536 % 256 = Int.ofNat e.toNat := by rw [hv]; simp; omega
  have e3 : ((Crc.val [d, e, f, g] : Nat) : Int) / 256 % 256 = Int.ofNat f.toNat := by rw [hv]; simp; omega
  have e4 : ((Crc.val [d, e, f, g] : Nat) : Int) % 256 = Int.ofNat g.toNat := by rw [hv]; simp; omega
  rw [e1, e2, e3, e4]
  rfl
 have h2 := Crc.nums_back [d.toNat, e.toNat, f.toNat, g.toNat] (by
  intro x hx
  simp at hx
  rcases hx with rfl | rfl | rfl | rfl <;> assumption)
 rw [← h1] at h2
 generalize (Crc.four (Crc.val [d, e, f, g])).data.toList = l at h2
 have hlen : l.length = 4 := by have := congrArg List.length h2; simpa using this
 match l, hlen, h2 with
 | [a, b, c, x], _, h =>
  simp only [List.map_cons, List.map_nil, List.cons.injEq, and_true] at h
  obtain ⟨h1, h2, h3, h4⟩ := h
  rw [UInt8.toNat_inj.1 h1, UInt8.toNat_inj.1 h2, UInt8.toNat_inj.1 h3, UInt8.toNat_inj.1 h4]
theorem head_list (a b : UInt8) : (head a.toNat b.toNat).data.toList = [216, a, b] := by
 have ha := a.toNat_lt
 have hb := b.toNat_lt
 have h2 := Crc.nums_back [216, a.toNat, b.toNat] (by
  intro x hx
  simp at hx
  rcases hx with rfl | rfl | rfl <;> omega)
 have h1 : head a.toNat b.toNat = Go.strOfNums ([216, a.toNat, b.toNat].map Int.ofNat) := rfl
 rw [← h1] at h2
 generalize (head a.toNat b.toNat).data.toList = l at h2
 have hlen : l.length = 3 := by have := congrArg List.length h2; simpa using this
 match l, hlen, h2 with
 | [x, y, z], _, h =>
  simp only [List.map_cons, List.map_nil, List.cons.injEq, and_true] at h
  obtain ⟨h1, h2, h3⟩ := h
  rw [UInt8.toNat_inj.1 (show x.toNat = (216 : UInt8).toNat from h1), UInt8.toNat_inj.1 h2, UInt8.toNat_inj.1 h3]
theorem put_right {z : Fr} (h : z.right = true) : put z = body z.k z.i := by
 obtain ⟨a, b, ha, hb, rfl⟩ := Fr.right_nat h
 unfold put
 rw [if_neg (by rcases ha with rfl | rfl <;> simp), if_pos h]
theorem get_put {z : Fr} (h : z.right = true) : get (put z) = z := by
 rw [put_right h]
 obtain ⟨a, b, ha, hb, rfl⟩ := Fr.right_nat h
 exact (body_facts a b ha hb).2.2.1
theorem seven (l : List UInt8) (h : l.length = 7) : ∃ a b c d e f g, l = [a, b, c, d, e, f, g] :=
 match l, h with
 | [a, b, c, d, e, f, g], _ => ⟨a, b, c, d, e, f, g, rfl⟩
theorem put_get (s : ByteArray) (h : (get s).right = true) : put (get s) = s := by
 rw [put_right h]
 unfold get at h ⊢
 have hl : s.data.toList.length = s.size := Array.length_toList
 have hs : ∀ t : ByteArray, t.data.toList = s.data.toList → t = s := by
  intro t ht
  obtain ⟨⟨x⟩⟩ := t
  obtain ⟨⟨y⟩⟩ := s
  cases ht
  rfl
 apply hs
 generalize s.data.toList = l at *
 unfold getL at h ⊢
 by_cases e : l = []
 ·rw [if_pos e] at h; cases h
 rw [if_neg e] at h ⊢
 by_cases c : l.length = 7 ∧ l.getD 0 0 = 216 ∧ Crc.val (l.drop 3) = Crc.sum (l.take 3) ∧ Fr.right ⟨(l.getD 1 0).toNat, (l.getD 2 0).toNat⟩ = true
 ·rw [if_pos c]
  obtain ⟨c1, c2, c3, c4⟩ := c
  obtain ⟨a, b, c, d, e', f, g, rfl⟩ := seven l c1
  ·have c2' : a = 216 := c2
   subst c2'
   have c3' : Crc.val [d, e', f, g] = Crc.sum [216, b, c] := c3
   show (head b.toNat c.toNat ++ Crc.four (Crc.sum (head b.toNat c.toNat).data.toList)).data.toList = _
   rw [head_list, ← c3']
   have ha : ∀ x y : ByteArray, (x ++ y).data.toList = x.data.toList ++ y.data.toList := by
    intro x y
    simp
   rw [ha, four_val, head_list]
   rfl
 ·rw [if_neg c] at h; cases h
theorem get_cases (s : ByteArray) : (s.size = 0 ∧ get s = Fr.none) ∨ (s.size ≠ 0 ∧ (get s).right = true) ∨ (s.size ≠ 0 ∧ get s = Fr.noise) := by
 have hl : s.data.toList.length = s.size := Array.length_toList
 unfold get getL
 by_cases e : s.data.toList = []
 ·rw [if_pos e]
  rw [e] at hl
  exact Or.inl ⟨hl.symm, rfl⟩
 ·rw [if_neg e]
  have hne : s.size ≠ 0 := by
   rw [← hl]
   intro h
   exact e (List.eq_nil_of_length_eq_zero h)
  split
  ·rename_i c
   exact Or.inr (Or.inl ⟨hne, c.2.2.2⟩)
  ·exact Or.inr (Or.inr ⟨hne, rfl⟩)
theorem get_empty : get ByteArray.empty = Fr.none := rfl
theorem get_long (s : ByteArray) (h : 7 < s.size) : get s = Fr.noise := by
 have hl : s.data.toList.length = s.size := Array.length_toList
 unfold get getL
 rw [if_neg (by intro e; rw [e] at hl; simp at hl; omega), if_neg (by rintro ⟨h1, _⟩; omega)]
theorem get_not_seven (s : ByteArray) (h0 : s.size ≠ 0) (h : ¬ s.size = 7) : get s = Fr.noise := by
 have hl : s.data.toList.length = s.size := Array.length_toList
 unfold get getL
 rw [if_neg (by intro e; rw [e] at hl; exact h0 hl.symm), if_neg (by rintro ⟨h1, _⟩; omega)]
theorem get_seven (s : ByteArray) (h : s.size = 7) : get s = if s[0].toNat = 216 ∧ Crc.val (s.extract 3 7).data.toList = Crc.sum (s.extract 0 3).data.toList ∧ Fr.right ⟨(s[1].toNat : Int), (s[2].toNat : Int)⟩ = true then ⟨(s[1].toNat : Int), (s[2].toNat : Int)⟩ else Fr.noise := by
 obtain ⟨⟨l⟩⟩ := s
 obtain ⟨a, b, c, d, e, f, g, rfl⟩ := seven l h
 have h1 : ∀ x : UInt8, x = 216 ↔ x.toNat = 216 := fun x => ⟨fun h => by rw [h]; rfl, fun h => UInt8.toNat_inj.1 h⟩
 have hA : get ⟨⟨[a, b, c, d, e, f, g]⟩⟩ = if 7 = 7 ∧ a = 216 ∧ Crc.val [d, e, f, g] = Crc.sum [a, b, c] ∧ Fr.right ⟨(b.toNat : Int), (c.toNat : Int)⟩ = true then ⟨(b.toNat : Int), (c.toNat : Int)⟩ else Fr.noise := rfl
 rw [hA]
 have hB : ((⟨⟨[a, b, c, d, e, f, g]⟩⟩ : ByteArray).extract 3 7).data.toList = [d, e, f, g] := by rw [Lib.extract_data]; rfl
 have hC : ((⟨⟨[a, b, c, d, e, f, g]⟩⟩ : ByteArray).extract 0 3).data.toList = [a, b, c] := by rw [Lib.extract_data]; rfl
 rw [hB, hC]
 simp only [h1, true_and]
 rfl
theorem get_zero : get ⟨#[0]⟩ = Fr.noise := by decide +kernel
theorem put_size {z : Fr} (h : z.right = true) : (put z).size = 7 := by
 rw [put_right h]
 obtain ⟨a, b, ha, hb, rfl⟩ := Fr.right_nat h
 exact (body_facts a b ha hb).1
theorem get_search (s : ByteArray) (h0 : s.size ≠ 0) (h : ∀ z : Fr, z.right = true → put z ≠ s) : get s = Fr.noise := by
 rcases get_cases s with h1 | h1 | h1
 ·exact absurd h1.1 h0
 ·exact absurd (put_get s h1.2) (h _ h1.2)
 ·exact h1.2
theorem put_inj {y z : Fr} (hy : y.right = true) (hz : z.right = true) (h : put y = put z) : y = z := by
 rw [← get_put hy, h, get_put hz]
end Wire
end Go.Proofs.YtgiojagdmglinaaGreatDoor
namespace Go.Proofs.YtgiojagdmglinaaGreatDoor
open Go.RowKit
set_option maxHeartbeats 400000 in
theorem Wire.right_calls (z : Fr) (w : World) :
  Calls Tryz.prog 95 #[.agg #[.int .i64 z.k, .int .i64 z.i]] w fun e w' => e = .returned (.bool z.right) ∧ Below w.heap.size w w' := by
 obtain ⟨k, i⟩ := z
 by_cases h0 : 0 ≤ i
 ·by_cases h1 : k = 1
  ·subst h1
   go_enter Tryz.func95, Tryz.ntmps95
   go_wp2_with fail
   go_ret
   exact ⟨by simp [Fr.right, h0], (Below.refl _ _).alloc (Nat.le_refl _) _⟩
  ·by_cases h2 : k = 2
   ·subst h2
    go_enter Tryz.func95, Tryz.ntmps95
    go_wp2_with fail
    go_ret
    exact ⟨by simp [Fr.right, h0], (Below.refl _ _).alloc (Nat.le_refl _) _⟩
   ·have e1 : (k == 1) = false := by rw [beq_eq_false_iff_ne]; exact h1
    have e2 : (k == 2) = false := by rw [beq_eq_false_iff_ne]; exact h2
    go_enter Tryz.func95, Tryz.ntmps95
    go_wp2_with fail
    go_ret
    exact ⟨by simp [Fr.right, h1, h2], (Below.refl _ _).alloc (Nat.le_refl _) _⟩
 ·have h0' : i < 0 := by omega
  by_cases h1 : k = 1
  ·subst h1
   go_enter Tryz.func95, Tryz.ntmps95
   go_wp2_with fail
   go_ret
   exact ⟨by rw [Fr.right_neg ⟨1, i⟩ (show ¬ 0 ≤ i by omega)]; rfl, (Below.refl _ _).alloc (Nat.le_refl _) _⟩
  ·by_cases h2 : k = 2
   ·subst h2
    go_enter Tryz.func95, Tryz.ntmps95
    go_wp2_with fail
    go_ret
    exact ⟨by rw [Fr.right_neg ⟨2, i⟩ (show ¬ 0 ≤ i by omega)]; rfl, (Below.refl _ _).alloc (Nat.le_refl _) _⟩
   ·have e1 : (k == 1) = false := by rw [beq_eq_false_iff_ne]; exact h1
    have e2 : (k == 2) = false := by rw [beq_eq_false_iff_ne]; exact h2
    go_enter Tryz.func95, Tryz.ntmps95
    go_wp2_with fail
    go_ret
    exact ⟨by simp [Fr.right, h1, h2], (Below.refl _ _).alloc (Nat.le_refl _) _⟩
set_option maxHeartbeats 400000 in
theorem Wire.put_calls (z : Fr) (w : World) :
  Calls Tryz.prog 93 #[.agg #[.int .i64 z.k, .int .i64 z.i]] w fun e w' => e = .returned (.string (Wire.put z)) ∧ Below w.heap.size w w' := by
 by_cases h3 : z.k = 3
 ·have e3 : (z.k == 3) = true := by rw [beq_iff_eq]; exact h3
  have ep : Wire.put z = ⟨#[0]⟩ := if_pos h3
  generalize Wire.put z = q at *
  subst ep
  go_enter Tryz.func93, Tryz.ntmps93
  go_wp2_with fail
  go_ret
  exact ⟨rfl, (Below.refl _ _).alloc (Nat.le_refl _) _⟩
 ·have e3 : (z.k == 3) = false := by rw [beq_eq_false_iff_ne]; exact h3
  cases hr : z.right with
  | false =>
   have ep : Wire.put z = ByteArray.empty := by unfold Wire.put; rw [if_neg h3, hr]; rfl
   have c := fun w => Wire.right_calls z w
   rw [hr] at c
   generalize Wire.put z = q at *
   subst ep
   go_enter Tryz.func93, Tryz.ntmps93
   go_wp2_with fail
   refine (c _).mono ?_
   rintro e w1 ⟨rfl, h1⟩
   go_wp2_with fail
   go_ret
   exact ⟨rfl, Kit.chain ((Below.refl _ _).alloc (Nat.le_refl _) _) h1⟩
  | true =>
   have ep := Wire.put_right hr
   have c := fun w => Wire.right_calls z w
   rw [hr] at c
   obtain ⟨a, b, ha, hb, rfl⟩ := Fr.right_nat hr
   have hf := Wire.body_facts a b ha hb
   have hcv := fun (w : World) => Kit.conv_back (P := Tryz.prog) 94 9 5 Tryz.underlying94 Tryz.underlying5 Tryz.underlying9 [216, (a : Int), (b : Int)] #[.int .u8 216, .int .u8 a, .int .u8 b] rfl 3 3 rfl w
   rw [show strOfNums [216, (a : Int), (b : Int)] = Wire.head a b from rfl] at hcv
   have hbody : Wire.body a b = Wire.head a b ++ Crc.four (Crc.sum (Wire.head a b).data.toList) := rfl
   have hsz : (Wire.head (a : Int) b).size ≤ 9223372036854775807 := by rw [hf.2.2.2]; decide
   have c2 := fun w => Crc.sum_calls (Wire.head a b) w hsz
   have c3 := fun w => Crc.four_calls (Crc.sum (Wire.head a b).data.toList) w (Crc.sum_lt _)
   rw [hbody] at ep
   have z4 : (Crc.four (Crc.sum (Wire.head a b).data.toList)).size = 4 := strOfNums_size _
   have z3 := hf.2.2.2
   clear hbody hf hr
   generalize Crc.sum (Wire.head a b).data.toList = q at *
   generalize Wire.put ⟨a, b⟩ = p at *
   generalize Wire.head a b = hd at *
   subst ep
   simp only at c e3
   go_enter Tryz.func93, Tryz.ntmps93
   go_wp2_with fail
   refine (c _).mono ?_
   rintro e w1 ⟨rfl, h1⟩
   have q0 := Kit.cell_new h1 0 rfl
   have q1 := Kit.cell_new h1 1 rfl
   go_wp2_with fail
   refine (c2 _).mono ?_
   rintro e w2 ⟨rfl, h2⟩
   go_wp2_with fail
   refine (c3 _).mono ?_
   rintro e w3 ⟨rfl, h3⟩
   go_wp2_with fail
   go_ret
   refine ⟨rfl, ?_⟩
   exact (Kit.chain ((Below.refl _ _).alloc (Nat.le_refl _) _) (Kit.chain h1 (Kit.chain ((Below.refl _ _).alloc (Nat.le_refl _) _) (Kit.chain h2 h3))))
structure Wire.Three (W : World) (B : Nat) (b c : Int) : Prop where
 lt : B + 1 + 1 < W.heap.size
 p0 : W.cell? ⟨B, 0, none⟩ = some (.int .i64 0)
 p1 : W.cell? ⟨B, 1, none⟩ = some (.int .i64 0)
 p2 : W.frozen? ⟨B, 0, none⟩ = false
 p3 : W.frozen? ⟨B, 1, none⟩ = false
 p4 : W.cell? ⟨B + 1, 0, none⟩ = some (.int .i64 3)
 p5 : W.cell? ⟨B + 1, 1, none⟩ = some (.int .i64 0)
 p6 : W.cell? ⟨B + 1 + 1, 0, none⟩ = some (.int .i64 b)
 p7 : W.cell? ⟨B + 1 + 1, 1, none⟩ = some (.int .i64 c)
theorem Wire.Three.below {W W' : World} {B : Nat} {b c : Int} (h : Wire.Three W B b c) (hb : Below W.heap.size W W') : Wire.Three W' B b c where
 lt := Nat.lt_of_lt_of_le h.lt hb.size
 p0 := Kit.cell_below hb h.p0
 p1 := Kit.cell_below hb h.p1
 p2 := (hb.frozen (p := ⟨B, 0, none⟩) (by have := h.lt; show B < _; omega)).trans h.p2
 p3 := (hb.frozen (p := ⟨B, 1, none⟩) (by have := h.lt; show B < _; omega)).trans h.p3
 p4 := Kit.cell_below hb h.p4
 p5 := Kit.cell_below hb h.p5
 p6 := Kit.cell_below hb h.p6
 p7 := Kit.cell_below hb h.p7
set_option maxHeartbeats 1000000 in
theorem Wire.get_calls (s : ByteArray) (w : World) (hs : s.size ≤ 9223372036854775807) :
  Calls Tryz.prog 94 #[.string s] w fun e w' => e = .returned (.agg #[.int .i64 (Wire.get s).k, .int .i64 (Wire.get s).i]) ∧ Below w.heap.size w w' := by
 by_cases h0 : s.size = 0
 ·have e0 := Kit.str_none h0
  subst e0
  rw [Wire.get_empty]
  go_enter Tryz.func94, Tryz.ntmps94
  go_wp2_with fail
  refine bodyPost_ret (v := .agg #[.int .i64 0, .int .i64 0]) (by simp [results, Tryz.results94, go_sem]) rfl ⟨rfl, ?_⟩
  exact ((Below.refl _ _).alloc (Nat.le_refl _) _).alloc (by simp) _
 ·have e0 : s.toList.isEmpty = false := Kit.str_full h0
  by_cases h7 : s.size = 7
  ·rw [Wire.get_seven s h7]
   by_cases h216 : s[0].toNat = 216
   ·have e1 : ((s[0].toNat : Int) != 216) = false := by rw [bne_eq_false_iff_eq]; omega
    have b1 := (s[1]).toNat_lt
    have b2 := (s[2]).toNat_lt
    have hx1 : (s.extract 0 3).size ≤ 9223372036854775807 := by rw [ByteArray.size_extract]; omega
    have hx2 : (s.extract 3 7).size = 4 := by rw [ByteArray.size_extract]; omega
    have c1 := fun w => Crc.value_calls (s.extract 3 7) w hx2
    have c2 := fun w => Crc.sum_calls (s.extract 0 3) w hx1
    have c3 := fun w => Wire.right_calls ⟨(s[1].toNat : Int), (s[2].toNat : Int)⟩ w
    generalize hq : Crc.val (s.extract 3 7).data.toList = q at *
    generalize hr : Crc.sum (s.extract 0 3).data.toList = r at *
    generalize hg : Fr.right ⟨(s[1].toNat : Int), (s[2].toNat : Int)⟩ = g at *
    go_enter Tryz.func94, Tryz.ntmps94
    go_wp2_with fail
    go_region
    obtain ⟨W6, hW6⟩ : ∃ W6 : World, W6 = (((w.alloc (.cells #[.int .i64 0, .int .i64 0] 45)).alloc (.cells #[.int .i64 3, .int .i64 0] 45)).alloc (.cells #[.int .i64 s[1].toNat, .int .i64 s[2].toNat] 45)).drew := ⟨_, rfl⟩
    have B6 : Below w.heap.size w W6 := by rw [hW6]; exact ((((Below.refl _ _).alloc (Nat.le_refl _) _).alloc (by simp) _).alloc (by simp; omega) _).drew
    have n6 : w.heap.size + 1 + 1 < W6.heap.size := by rw [hW6]; simp
    have T6 : Wire.Three W6 w.heap.size s[1].toNat s[2].toNat := by
     refine ⟨n6, ?_, ?_, ?_, ?_, ?_, ?_, ?_, ?_⟩
     all_goals (rw [hW6]; go_simp; try rfl)
    have H6 := Lib.hid T6
    have HB6 := Lib.hid B6
    rw [← hW6]
    clear hW6 T6 B6 n6
    go_wp2_with fail
    refine (c1 _).mono ?_
    rintro e w1 ⟨rfl, h1⟩
    have H7 := Lib.hid (H6.out.below h1)
    have HB7 := Lib.hid (Kit.chain HB6.out h1)
    clear h1
    by_cases hqr : q = r
    ·subst hqr
     go_wp2_with fail
     refine (c2 _).mono ?_
     rintro e w2 ⟨rfl, h2⟩
     have H8 := Lib.hid (H7.out.below h2)
     have HB8 := Lib.hid (Kit.chain HB7.out h2)
     obtain ⟨_, _, _, _, _, _, _, p6, p7⟩ := H8.out
     clear h2
     go_wp2_with fail
     refine (c3 _).mono ?_
     rintro e w3 ⟨rfl, h3⟩
     clear p6 p7
     obtain ⟨lt, p0, p1, p2, p3, p4, p5, p6, p7⟩ := H8.out.below h3
     have HB9 := Lib.hid (Kit.chain HB8.out h3)
     clear h3
     cases g with
     | true =>
      go_wp2_with fail
      refine bodyPost_ret (v := .agg #[.int .i64 s[1].toNat, .int .i64 s[2].toNat]) (by simp [results, Tryz.results94, go_sem, p0, p1]) rfl ⟨rfl, ?_⟩
      exact (HB9.out.setCell (by simp) _).setCell (by simp) _
     | false =>
      go_wp2_with fail
      refine bodyPost_ret (v := .agg #[.int .i64 3, .int .i64 0]) (by simp [results, Tryz.results94, go_sem, p0, p1]) rfl ⟨rfl, ?_⟩
      exact (HB9.out.setCell (by simp) _).setCell (by simp) _
    ·have hqr' : ((q : Int) != r) = true := by rw [bne_iff_ne]; omega
     go_wp2_with fail
     refine (c2 _).mono ?_
     rintro e w2 ⟨rfl, h2⟩
     obtain ⟨lt, p0, p1, p2, p3, p4, p5, p6, p7⟩ := H7.out.below h2
     have HB8 := Lib.hid (Kit.chain HB7.out h2)
     clear h2
     go_wp2_with fail
     refine bodyPost_ret (v := .agg #[.int .i64 3, .int .i64 0]) (by simp [results, Tryz.results94, go_sem, p0, p1]) rfl ⟨rfl, ?_⟩
     exact (HB8.out.setCell (by simp) _).setCell (by simp) _
   ·have e1 : ((s[0].toNat : Int) != 216) = true := by rw [bne_iff_ne]; omega
    rw [if_neg (fun h => h216 h.1)]
    go_enter Tryz.func94, Tryz.ntmps94
    go_wp2_with fail
    refine bodyPost_ret (v := .agg #[.int .i64 3, .int .i64 0]) (by simp [results, Tryz.results94, go_sem]) rfl ⟨rfl, ?_⟩
    exact ((Below.refl _ _).alloc (Nat.le_refl _) _).alloc (by simp) _
  ·have e7 : ((s.size : Int) != 7) = true := by rw [bne_iff_ne]; omega
   rw [Wire.get_not_seven s h0 h7]
   go_enter Tryz.func94, Tryz.ntmps94
   go_wp2_with fail
   refine bodyPost_ret (v := .agg #[.int .i64 3, .int .i64 0]) (by simp [results, Tryz.results94, go_sem]) rfl ⟨rfl, ?_⟩
   exact ((Below.refl _ _).alloc (Nat.le_refl _) _).alloc (by simp) _
end Go.Proofs.YtgiojagdmglinaaGreatDoor
namespace Go.Proofs.YtgiojagdmglinaaGreatDoor
structure Hb where
 ages : List Int
 port : Int
 age : Int
 hold : Int
 pos : Int
deriving DecidableEq
def Hb.ag (h : Hb) (p : Nat) : Int := h.ages.getD p 0
def Hb.zero : Hb := ⟨[0, 0, 0, 0, 0, 0, 0, 0], 0, 0, 0, 0⟩
def frAt (l : List Fr) (p : Nat) : Fr := l.getD p Fr.none
def ndAt (l : List Nd) (i : Nat) : Nd := l.getD i Nd.zero
namespace Wm
def up (c m : Int) : Int := if max c 0 < m then max c 0 + 1 else m
def nx (n p : Int) : Int := if p = n - 1 then 0 else p + 1
def eight (f : Nat → Int) : List Int := (List.range 8).map f
theorem eight_at (f : Nat → Int) (p : Nat) (h : p < 8) : (eight f).getD p 0 = f p := by
 unfold eight
 rw [List.getD_eq_getElem?_getD, List.getElem?_map, List.getElem?_range h]
 rfl
structure Right (n : Nat) (h : Hb) : Prop where
 len : h.ages.length = 8
 ag : ∀ p, p < n → 0 ≤ h.ag p ∧ h.ag p ≤ n
 no : ∀ p, n ≤ p → h.ag p = 0
 age : 0 ≤ h.age ∧ h.age ≤ 2 * n + 1
 hold : 0 ≤ h.hold ∧ h.hold ≤ 2 * n
 port : 0 ≤ h.port ∧ h.port < n
 pos : 0 ≤ h.pos ∧ h.pos < n
def most (n p : Nat) : Int := if p < n then n else 0
def fresh (n : Nat) : Hb := ⟨eight (most n), 0, 2 * n + 1, 0, 0⟩
def tick (n : Nat) (h : Hb) : Hb := ⟨eight fun p => up (h.ag p) (most n p), h.port, up h.age (2 * n + 1), max h.hold 1 - 1, nx n h.pos⟩
def note (n : Nat) (h : Hb) (l : List Fr) : Hb := { h with ages := eight fun p => if p < n ∧ (frAt l p).k = 2 then 0 else h.ag p }
def says (n : Nat) (h : Hb) (v p : Nat) : Bool := decide (h.ag p < n) && ((p : Int) + h.ag p) % n == v
def asks (n : Nat) (h : Hb) (v p : Nat) : Bool := (h.port == p && decide (h.age < 2 * n)) && ((p : Int) + h.age) % n == v
def votes (n : Nat) (h : Hb) (v : Nat) : Nat := ((List.range n).filter fun p => says n h v p || asks n h v p).length
def tally (n : Nat) (h : Hb) : List Nat := (List.range n).map (votes n h)
def best (n : Nat) (h : Hb) : Nat × Nat := let l := tally n h; let m := l.foldl max 0; (l.idxOf m, m)
def chosen (n : Nat) (h : Hb) : Nat × Nat := if h.hold = 0 then best n h else (h.pos.toNat, votes n h h.pos.toNat)
def settle (n : Nat) (h : Hb) : Hb := if 2 ≤ (chosen n h).2 then { h with pos := (chosen n h).1, hold := 2 * n } else h
def firstCs (l : List Fr) : Option Nat := l.findIdx? fun f => f.k == 1
def relay (n : Nat) (h : Hb) (l : List Fr) : Hb × Fr :=
 if 0 < h.hold then
  if (frAt l h.pos.toNat).k = 2 then ({ h with hold := 2 * n }, frAt l h.pos.toNat) else (h, Fr.none)
 else match firstCs l with
  | none => (h, Fr.none)
  | some p => if h.age ≤ 2 * n then (h, Fr.none) else (⟨eight fun i => if i < n then n else h.ag i, p, 0, h.hold, h.pos⟩, frAt l p)
def hub (n : Nat) (h : Hb) (l : List Fr) : Hb × Fr := relay n (settle n (note n (tick n h) l)) l
def wait (n : Nat) (x : Nd) : Int := (if x.md = 1 then 4 * n else 2 * n) + x.id + 1
def cs (n : Nat) (x : Nd) : Bool := (x.md == 1 || x.md == 2) && decide (wait n x ≤ x.ct)
def say (n : Nat) (x : Nd) : Fr := if x.md = 3 ∧ x.ps = x.id then ⟨2, x.id⟩ else if cs n x then ⟨1, x.id⟩ else Fr.none
def hears (p : Fr → Bool) (a b : Fr) : Option Int := if p a then some a.i else if p b then some b.i else none
def info (a b : Fr) : Option Int := hears (fun f => f.k == 2) a b
def other (i : Int) (a b : Fr) : Option Int := hears (fun f => f.k == 1 && f.i != i) a b
def wrong (s : Int) (a b : Fr) : Bool := (a.k == 2 && a.i != s) || (b.k == 2 && b.i != s)
def match_ (s : Int) (a b : Fr) : Bool := (a.k == 2 && a.i == s) || (b.k == 2 && b.i == s)
def join (n : Nat) (x : Nd) (j : Int) : Nd := ⟨x.id, 3, 0, nx n j⟩
def become (x : Nd) (m : Int) : Nd := ⟨x.id, m, 0, 0⟩
def mostCount : Int := 1073741824
def later (x : Nd) : Nd := { x with ct := up x.ct mostCount }
def listen (n : Nat) (x : Nd) (a b : Fr) : Nd :=
 match info a b with
 | some j => join n x j
 | none => if (other x.id a b).isSome || cs n x then become x 2 else later x
def cold (n : Nat) (x : Nd) (a b : Fr) : Nd :=
 match info a b with
 | some j => join n x j
 | none => match other x.id a b with
  | some j => join n x j
  | none => if cs n x then become x 2 else later x
def active (n : Nat) (x : Nd) (a b : Fr) : Nd :=
 if wrong x.ps a b then become x 1 else if (other x.id a b).isSome then become x 2
 else
  let c := if match_ x.ps a b then 0 else up x.ct mostCount
  if 8 * n ≤ c then become x 1 else ⟨x.id, 3, c, nx n x.ps⟩
def act (n : Nat) (x : Nd) (a b : Fr) : Nd := if x.md = 1 then listen n x a b else if x.md = 2 then cold n x a b else active n x a b
structure NRight (n i : Nat) (x : Nd) : Prop where
 id : x.id = i
 md : 0 ≤ x.md ∧ x.md ≤ 3
 ct : 0 ≤ x.ct ∧ x.ct ≤ mostCount
 ps : 0 ≤ x.ps ∧ x.ps < n
 init : x.md = 0 → x.ct = 0
 rest : x.md ≠ 3 → x.ps = 0
end Wm
end Go.Proofs.YtgiojagdmglinaaGreatDoor
