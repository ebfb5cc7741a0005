/-
  Plain arithmetic of the sum of bytes (CRC-32): the register's step, the step of a byte, the sum; without program or memory.
-/
import Derived.Laws.BitsAllLaws
import Derived.Laws.BitsLemmas
import Derived.Laws.BytesArg
namespace Go.Proofs.Ytpbkoooljelhjaa
set_option linter.unusedVariables false
set_option linter.unusedSimpArgs false
namespace Crc

/-- One bit's step of the register. -/
def st (r : Nat) : Nat := if r % 2 = 1 then (r / 2) ^^^ 3988292384 else r / 2
/-- So many steps. -/
def it : Nat → Nat → Nat
  | 0, r => r
  | k + 1, r => it k (st r)
theorem it_succ' (k r : Nat) : it (k + 1) r = st (it k r) := by
  induction k generalizing r with
  | zero => rfl
  | succ k ih => rw [it, ih]; rfl
theorem st_lt {r : Nat} (h : r < 4294967296) : st r < 4294967296 := by
  unfold st
  split
  · exact Nat.xor_lt_two_pow (n := 32) (by omega) (by omega)
  · omega
theorem it_lt (k : Nat) {r : Nat} (h : r < 4294967296) : it k r < 4294967296 := by
  induction k generalizing r with
  | zero => exact h
  | succ k ih => exact ih (st_lt h)
/-- The register behind a byte more. -/
def add (r b : Nat) : Nat := it 8 (r ^^^ b)
theorem xor_lt {r b : Nat} (h : r < 4294967296) (hb : b < 4294967296) : r ^^^ b < 4294967296 := Nat.xor_lt_two_pow (n := 32) h hb
theorem add_lt {r b : Nat} (h : r < 4294967296) (hb : b < 256) : add r b < 4294967296 := it_lt 8 (xor_lt h (by omega))
/-- The register behind bytes. -/
def from_ (r : Nat) (l : List UInt8) : Nat := l.foldl (fun r b => add r b.toNat) r
theorem from_lt {r : Nat} (h : r < 4294967296) (l : List UInt8) : from_ r l < 4294967296 := by
  induction l generalizing r with
  | nil => exact h
  | cons b l ih => exact ih (add_lt h b.toNat_lt)
theorem from_snoc (r : Nat) (l : List UInt8) (b : UInt8) : from_ r (l ++ [b]) = add (from_ r l) b.toNat := by simp [from_]
theorem from_append (r : Nat) (l m : List UInt8) : from_ r (l ++ m) = from_ (from_ r l) m := by simp [from_]
/-- The register at first. -/
def init : Nat := 4294967295
theorem init_eq : init = 4294967295 := rfl
theorem init_lt : init < 4294967296 := by unfold init; omega
/-- The sum of bytes. -/
def sum (l : List UInt8) : Nat := init - from_ init l
theorem sum_lt (l : List UInt8) : sum l < 4294967296 := by unfold sum init; omega
theorem from_le (l : List UInt8) : from_ init l ≤ 4294967295 := by have := from_lt init_lt l; omega
theorem sum_back (l : List UInt8) : init - sum l = from_ init l := by have := from_le l; unfold sum; have := init_eq; omega
theorem sum_int (l : List UInt8) : (4294967295 : Int) - (from_ init l : Nat) = ((sum l : Nat) : Int) := by have := from_le l; unfold sum; have := init_eq; omega

/-- The program's step, as the machine spells it. -/
theorem st_go (r : Nat) (h : r < 4294967296) : Go.bits .xor .u32 ((r : Int) / 2) (Go.bits .and .u32 3988292384 ((-(Go.bits .and .u32 (r : Int) 1)) % 4294967296)) = (st r : Int) := by
  have h1 : Go.bits .and .u32 (r : Int) 1 = ((r % 2 : Nat) : Int) := by
    have := u32_and_nat r 1 h (by omega)
    rw [show ((1 : Nat) : Int) = 1 from rfl, Nat.and_one_is_mod] at this
    exact this
  rw [h1]
  unfold st
  by_cases e : r % 2 = 1
  · rw [if_pos e, e]
    have h2 : Go.bits .and .u32 3988292384 ((-((1 : Nat) : Int)) % 4294967296) = ((3988292384 : Nat) : Int) := by decide +kernel
    rw [h2]
    have := u32_xor_nat (r / 2) 3988292384 (by omega) (by omega)
    rw [← this]
    congr 1
  · rw [if_neg e, show r % 2 = 0 from by omega]
    have h2 : Go.bits .and .u32 3988292384 ((-((0 : Nat) : Int)) % 4294967296) = ((0 : Nat) : Int) := by decide +kernel
    rw [h2]
    have := u32_xor_nat (r / 2) 0 (by omega) (by omega)
    rw [Nat.xor_zero] at this
    rw [← this]
    congr 1
theorem xor_go (r b : Nat) (h : r < 4294967296) (hb : b < 256) : Go.bits .xor .u32 (r : Int) (b : Int) = ((r ^^^ b : Nat) : Int) := u32_xor_nat r b h (by omega)
theorem not_go (r : Nat) (h : r < 4294967296) : Go.bits .xor .u32 IntKind.u32.max (r : Int) = 4294967295 - (r : Int) := by
  have h1 : IntKind.u32.max = ((4294967295 : Nat) : Int) := by decide +kernel
  rw [h1, u32_xor_nat _ r (by omega) h]
  have h2 : (4294967295 ^^^ r : Nat) = 4294967295 - r := by
    have := congrArg BitVec.toNat (BitVec.allOnes_xor (x := BitVec.ofNat 32 r))
    simp only [BitVec.toNat_xor, BitVec.toNat_allOnes, BitVec.toNat_not, BitVec.toNat_ofNat] at this
    rw [Nat.mod_eq_of_lt (show r < 2 ^ 32 from h)] at this
    exact this
  rw [h2]
  omega
/-- A number's four bytes, the highest first. -/
def four (n : Nat) : ByteArray := Go.strOfNums [(n : Int) / 16777216, (n : Int) / 65536 % 256, (n : Int) / 256 % 256, (n : Int) % 256]
/-- The number of four bytes. -/
def val (s : List UInt8) : Nat := ((s.getD 0 0).toNat * 256 + (s.getD 1 0).toNat) * 65536 + (s.getD 2 0).toNat * 256 + (s.getD 3 0).toNat
theorem val_lt (s : List UInt8) : val s < 4294967296 := by
  unfold val
  have a := (s.getD 0 0).toNat_lt
  have b := (s.getD 1 0).toNat_lt
  have c := (s.getD 2 0).toNat_lt
  have d := (s.getD 3 0).toNat_lt
  omega
theorem or_add (a b k : Nat) (hb : b < 2 ^ k) : (a * 2 ^ k) ||| b = a * 2 ^ k + b := by
  rw [Nat.mul_comm, Nat.two_pow_add_eq_or_of_lt hb]
set_option maxRecDepth 100000 in
theorem val_go (a b c d : Nat) (ha : a < 256) (hb : b < 256) (hc : c < 256) (hd : d < 256) :
    Go.bits .or .u32 (Go.bits .or .u32 (Go.bits .or .u32 ((a : Int) % 4294967296 * 16777216 % 4294967296) ((b : Int) % 4294967296 * 65536 % 4294967296)) ((c : Int) % 4294967296 * 256 % 4294967296)) ((d : Int) % 4294967296) = (((a * 256 + b) * 65536 + c * 256 + d : Nat) : Int) := by
  rw [show (a : Int) % 4294967296 * 16777216 % 4294967296 = ((a * 16777216 : Nat) : Int) from by omega, show (b : Int) % 4294967296 * 65536 % 4294967296 = ((b * 65536 : Nat) : Int) from by omega,
    show (c : Int) % 4294967296 * 256 % 4294967296 = ((c * 256 : Nat) : Int) from by omega, show (d : Int) % 4294967296 = ((d : Nat) : Int) from by omega]
  have h1 : a * 16777216 ||| b * 65536 = (a * 256 + b) * 65536 := (or_add a (b * 65536) 24 (by omega)).trans (by omega)
  rw [u32_or_nat _ _ (by omega) (by omega), h1]
  have h2 : (a * 256 + b) * 65536 ||| c * 256 = (a * 256 + b) * 65536 + c * 256 := or_add (a * 256 + b) (c * 256) 16 (by omega)
  rw [u32_or_nat _ _ (by omega) (by omega), h2]
  have e3 : (a * 256 + b) * 65536 + c * 256 = ((a * 256 + b) * 256 + c) * 256 := by omega
  have h3 : ((a * 256 + b) * 256 + c) * 256 ||| d = ((a * 256 + b) * 256 + c) * 256 + d := or_add ((a * 256 + b) * 256 + c) d 8 (by omega)
  rw [u32_or_nat _ _ (by omega) (by omega), e3, h3]
/-- The number of the first bytes. -/
def valTo : List UInt8 → Nat → Nat
  | _, 0 => 0
  | s, k + 1 => 256 * valTo s k + (s.getD k 0).toNat
theorem valTo_four (s : List UInt8) : valTo s 4 = val s := by simp only [valTo, val]; omega
theorem valTo_lt (s : List UInt8) (k : Nat) : valTo s k < 256 ^ k := by
  induction k with
  | zero => simp [valTo]
  | succ k ih =>
    have := (s.getD k 0).toNat_lt
    rw [valTo, Nat.pow_succ]
    omega
theorem valTo_lt3 (s : List UInt8) (k : Nat) (h : k < 4) : valTo s k < 16777216 := by
  have h1 := valTo_lt s k
  have h2 : 256 ^ k ≤ 256 ^ 3 := Nat.pow_le_pow_right (by omega) (by omega)
  have h3 : (256 : Nat) ^ 3 = 16777216 := rfl
  omega
theorem st_odd (r : Nat) (h : r < 4294967296) (e : r % 2 = 1) : Go.bits .xor .u32 ((r : Int) / 2) 3988292384 = (st r : Int) := by
  unfold st
  rw [if_pos e]
  have := u32_xor_nat (r / 2) 3988292384 (by omega) (by omega)
  rw [← this]
  congr 1
theorem st_even (r : Nat) (e : ¬ r % 2 = 1) : ((r : Int) / 2) = (st r : Int) := by
  unfold st
  rw [if_neg e]
  omega
end Crc
end Go.Proofs.Ytpbkoooljelhjaa
