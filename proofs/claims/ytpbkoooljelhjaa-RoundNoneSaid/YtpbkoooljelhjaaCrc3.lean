/-
  Plain arithmetic: bytes of which one to 32 bits in a row are changed have another sum. The register is taken as a number without bound: then a step is linear (exclusive or), and bytes go in as one number.
-/
import Derived.Test.YtpbkoooljelhjaaCrc0
namespace Go.Proofs.Ytpbkoooljelhjaa
set_option linter.unusedVariables false
set_option linter.unusedSimpArgs false
namespace Crc

theorem st_xor (a b : Nat) : st (a ^^^ b) = st a ^^^ st b := by
  have hd : (a ^^^ b) / 2 = a / 2 ^^^ b / 2 := Nat.xor_div_two
  have hm : (a ^^^ b) % 2 = (a + b) % 2 := by
    have := @Nat.xor_mod_two_eq_one a b
    by_cases h : (a ^^^ b) % 2 = 1
    · have := this.1 h; omega
    · have : ¬ ¬ (a % 2 = 1 ↔ b % 2 = 1) := fun h2 => h (this.2 h2)
      omega
  have assoc4 : ∀ x y p : Nat, (x ^^^ p) ^^^ (y ^^^ p) = x ^^^ y := fun x y p => by
    rw [Nat.xor_assoc, Nat.xor_comm y p, ← Nat.xor_assoc p p y, Nat.xor_self, Nat.zero_xor]
  unfold st
  rw [hd]
  by_cases ha : a % 2 = 1 <;> by_cases hb : b % 2 = 1
  · rw [if_neg (by omega), if_pos ha, if_pos hb, assoc4]
  · rw [if_pos (by omega), if_pos ha, if_neg hb, Nat.xor_assoc, Nat.xor_assoc, Nat.xor_comm (b / 2)]
  · rw [if_pos (by omega), if_neg ha, if_pos hb, Nat.xor_assoc]
  · rw [if_neg (by omega), if_neg ha, if_neg hb]
theorem it_xor (k a b : Nat) : it k (a ^^^ b) = it k a ^^^ it k b := by
  induction k generalizing a b with
  | zero => rfl
  | succ k ih => rw [it, it, it, st_xor, ih]
theorem it_add (j k r : Nat) : it (j + k) r = it j (it k r) := by
  induction k generalizing r with
  | zero => rfl
  | succ k ih => rw [show j + (k + 1) = (j + k) + 1 from rfl, it, it, ih]
theorem it_shift (k p : Nat) : it k (2 ^ k * p) = p := by
  induction k generalizing p with
  | zero => simp [it]
  | succ k ih =>
    have h : st (2 ^ (k + 1) * p) = 2 ^ k * p := by
      have e : 2 ^ (k + 1) * p = 2 * (2 ^ k * p) := by rw [Nat.pow_succ, Nat.mul_comm (2 ^ k) 2, Nat.mul_assoc]
      unfold st
      rw [e, if_neg (by omega)]
      omega
    rw [it, h, ih]
theorem st_ne {r : Nat} (h : r < 4294967296) (h0 : r ≠ 0) : st r ≠ 0 := by
  unfold st
  split
  · intro e
    have h1 : (r / 2) ^^^ 3988292384 ^^^ 3988292384 = 0 ^^^ 3988292384 := by rw [e]
    rw [Nat.xor_assoc, Nat.xor_self, Nat.xor_zero, Nat.zero_xor] at h1
    omega
  · omega
theorem it_ne (k : Nat) {r : Nat} (h : r < 4294967296) (h0 : r ≠ 0) : it k r ≠ 0 := by
  induction k generalizing r with
  | zero => exact h0
  | succ k ih => exact ih (st_lt h) (st_ne h h0)
/-- Bytes as one number, the first byte lowest. -/
def num : List Nat → Nat
  | [] => 0
  | b :: l => b ^^^ 256 * num l
theorem mul256_xor (a b : Nat) : 256 * (a ^^^ b) = 256 * a ^^^ 256 * b := by
  have h : ∀ x : Nat, 256 * x = x <<< 8 := fun x => by rw [Nat.shiftLeft_eq]; omega
  rw [h, h, h, Nat.shiftLeft_xor_distrib]
theorem from_num (r : Nat) (l : List UInt8) : from_ r l = it (8 * l.length) (r ^^^ num (l.map UInt8.toNat)) := by
  induction l generalizing r with
  | nil => simp [from_, it, num]
  | cons b l ih =>
    have h1 : from_ r (b :: l) = from_ (add r b.toNat) l := rfl
    have h2 : it 8 (256 * num (l.map UInt8.toNat)) = num (l.map UInt8.toNat) := it_shift 8 _
    rw [h1, ih, List.length_cons, show 8 * (l.length + 1) = 8 * l.length + 8 from by omega, it_add]
    rw [List.map_cons, num, ← Nat.xor_assoc, it_xor 8, h2]
    rfl
theorem num_set (l : List Nat) (j m : Nat) (h : j < l.length) : num (l.set j (l.getD j 0 ^^^ m)) = num l ^^^ 2 ^ (8 * j) * m := by
  induction l generalizing j with
  | nil => simp at h
  | cons b l ih =>
    cases j with
    | zero =>
      simp only [List.set_cons_zero, num, List.getD_cons_zero, Nat.mul_zero, Nat.pow_zero, Nat.one_mul]
      rw [Nat.xor_assoc, Nat.xor_assoc, Nat.xor_comm m]
    | succ j =>
      have h' : j < l.length := by simpa using h
      have e : 2 ^ (8 * (j + 1)) * m = 256 * (2 ^ (8 * j) * m) := by
        rw [show 8 * (j + 1) = 8 * j + 8 from by omega, Nat.pow_add, show (2 : Nat) ^ 8 = 256 from rfl, Nat.mul_comm (2 ^ (8 * j)) 256, Nat.mul_assoc]
      simp only [List.set_cons_succ, num, List.getD_cons_succ]
      rw [ih j h', e, mul256_xor, Nat.xor_assoc]
/-- Two texts of one length whose numbers part by p, put up by `from` bits, 0 < p < 2^32, have unlike registers. -/
theorem burst (s t : List UInt8) (hl : t.length = s.length) (from0 p : Nat) (hf : from0 ≤ 8 * s.length) (hp : p < 4294967296)
    (h : num (t.map UInt8.toNat) = num (s.map UInt8.toNat) ^^^ 2 ^ from0 * p) : (sum t = sum s) ↔ p = 0 := by
  have h1 : from_ init t ^^^ from_ init s = it (8 * s.length - from0) p := by
    rw [from_num, from_num, hl, h, ← it_xor]
    have e : init ^^^ (num (s.map UInt8.toNat) ^^^ 2 ^ from0 * p) ^^^ (init ^^^ num (s.map UInt8.toNat)) = 2 ^ from0 * p := by
      rw [← Nat.xor_assoc init, Nat.xor_comm (init ^^^ num (s.map UInt8.toNat)) (2 ^ from0 * p), Nat.xor_assoc, Nat.xor_self, Nat.xor_zero]
    rw [e]
    have e2 : 8 * s.length = (8 * s.length - from0) + from0 := by omega
    conv => lhs; rw [e2]
    rw [it_add, it_shift]
  have ht := from_le t
  have hs := from_le s
  constructor
  · intro he
    have he2 : from_ init t = from_ init s := by
      have a := sum_back t
      have b := sum_back s
      rw [← a, ← b, he]
    rw [he2, Nat.xor_self] at h1
    by_cases h0 : p = 0
    · exact h0
    · exact absurd h1.symm (it_ne _ hp h0)
  · intro h0
    have h2 : it (8 * s.length - from0) 0 = 0 := by
      have := it_shift (8 * s.length - from0) 0
      rwa [Nat.mul_zero] at this
    rw [h0, h2] at h1
    have h3 : from_ init t = from_ init s := by
      have h4 : (from_ init t ^^^ from_ init s) ^^^ from_ init s = 0 ^^^ from_ init s := by rw [h1]
      rwa [Nat.xor_assoc, Nat.xor_self, Nat.xor_zero, Nat.zero_xor] at h4
    unfold sum
    rw [h3]
theorem pow_xor (f a b : Nat) : 2 ^ f * (a ^^^ b) = 2 ^ f * a ^^^ 2 ^ f * b := by
  have h : ∀ x : Nat, 2 ^ f * x = x <<< f := fun x => by rw [Nat.shiftLeft_eq, Nat.mul_comm]
  rw [h, h, h, Nat.shiftLeft_xor_distrib]
theorem mod_zero (b i : Nat) (h : b / 2 ^ i % 2 = 0) : b % 2 ^ (i + 1) = b % 2 ^ i := by
  rw [Nat.pow_succ, Nat.mod_mul, h, Nat.mul_zero, Nat.add_zero]
theorem mod_one (b i : Nat) (h : b / 2 ^ i % 2 = 1) : b % 2 ^ (i + 1) = b % 2 ^ i + 2 ^ i := by
  rw [Nat.pow_succ, Nat.mod_mul, h, Nat.mul_one]
theorem mod_one_xor (b i : Nat) (h : b / 2 ^ i % 2 = 1) : b % 2 ^ (i + 1) = 2 ^ i ^^^ b % 2 ^ i := by
  have hlt : b % 2 ^ i < 2 ^ i := Nat.mod_lt _ (Nat.two_pow_pos i)
  rw [mod_one b i h]
  have h1 := Nat.two_pow_add_eq_or_of_lt hlt 1
  rw [Nat.mul_one] at h1
  rw [Nat.add_comm, h1]
  apply Nat.eq_of_testBit_eq
  intro j
  rw [Nat.testBit_or, Nat.testBit_xor]
  by_cases hj : j = i
  · subst hj
    rw [Nat.testBit_lt_two_pow hlt]; simp
  · have : (2 ^ i).testBit j = false := by rw [Nat.testBit_two_pow]; simp; omega
    rw [this]; simp
/-- One flip: the number's part goes on by one bit. -/
theorem flip_num (L : List Nat) (N f b i : Nat) (hL : (f + i) / 8 < L.length) (h : num L = N ^^^ 2 ^ f * (b % 2 ^ i)) (hb : b / 2 ^ i % 2 = 1) :
    num (L.set ((f + i) / 8) (L.getD ((f + i) / 8) 0 ^^^ 2 ^ ((f + i) % 8))) = N ^^^ 2 ^ f * (b % 2 ^ (i + 1)) := by
  have e : 2 ^ (8 * ((f + i) / 8)) * 2 ^ ((f + i) % 8) = 2 ^ f * 2 ^ i := by
    rw [← Nat.pow_add, ← Nat.pow_add]; congr 1; omega
  rw [num_set L _ _ hL, e, h, mod_one_xor b i hb, pow_xor, Nat.xor_assoc, Nat.xor_comm (2 ^ f * 2 ^ i)]
theorem flip_lt (L : List Nat) (k m : Nat) (h : ∀ x ∈ L, x < 256) (hk : k < L.length) (hm : m < 256) : ∀ x ∈ L.set k (L.getD k 0 ^^^ m), x < 256 := by
  intro x hx
  rcases List.mem_or_eq_of_mem_set hx with h1 | h1
  · exact h x h1
  · rw [h1]
    refine Nat.xor_lt_two_pow (n := 8) ?_ hm
    rw [List.getD_eq_getElem?_getD, List.getElem?_eq_getElem hk]
    exact h _ (List.getElem_mem hk)
theorem getD_lt (L : List Nat) (k : Nat) (h : ∀ x ∈ L, x < 256) : L.getD k 0 < 256 := by
  rw [List.getD_eq_getElem?_getD]
  by_cases hk : k < L.length
  · rw [List.getElem?_eq_getElem hk]; exact h _ (List.getElem_mem hk)
  · rw [List.getElem?_eq_none (by omega)]; simp
theorem pow_lt8 (m : Nat) (h : m ≤ 7) : 2 ^ m < 256 := by
  have := Nat.pow_le_pow_right (show 1 ≤ 2 by omega) h
  have e : (2 : Nat) ^ 7 = 128 := rfl
  omega
theorem pow_lt7 (m : Nat) (h : m < 7) : 2 ^ m < 128 := by
  have := Nat.pow_le_pow_right (show 1 ≤ 2 by omega) (show m ≤ 6 by omega)
  have e : (2 : Nat) ^ 6 = 64 := rfl
  omega
theorem getD_set_self (L : List Nat) (j x : Nat) (h : j < L.length) : (L.set j x).getD j 0 = x := by
  rw [List.getD_eq_getElem?_getD, List.getElem?_set_self h]; rfl
theorem getD_set_ne (L : List Nat) (j d x : Nat) (h : j ≠ d) : (L.set d x).getD j 0 = L.getD j 0 := by
  rw [List.getD_eq_getElem?_getD, List.getElem?_set_ne (fun e => h e.symm), ← List.getD_eq_getElem?_getD]
/-- A list of numbers below 256, as bytes: its numbers again. -/
theorem nums_back (L : List Nat) (h : ∀ x ∈ L, x < 256) : ((Go.strOfNums (L.map Int.ofNat)).data.toList).map UInt8.toNat = L := by
  rw [Go.strOfNums_data, List.map_map, List.map_map]
  conv => rhs; rw [← List.map_id L]
  apply List.map_congr_left
  intro x hx
  have := h x hx
  show (UInt8.ofNat (Int.toNat (Int.ofNat x))).toNat = x
  rw [show Int.toNat (Int.ofNat x) = x from rfl, UInt8.toNat_ofNat']
  omega
end Crc
end Go.Proofs.Ytpbkoooljelhjaa
