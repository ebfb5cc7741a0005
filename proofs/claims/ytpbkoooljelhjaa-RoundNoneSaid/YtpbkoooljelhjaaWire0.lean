/-
  Frames, without program or memory: which may be sent, their bytes, and what bytes are read as.
-/
import Derived.Test.YtpbkoooljelhjaaCrc3
import Derived.Lib.Strings
namespace Go.Proofs.Ytpbkoooljelhjaa
set_option linter.unusedVariables false
set_option linter.unusedSimpArgs false

/-- A frame: its kind and its number. -/
structure Fr where
  k : Int
  i : Int
deriving DecidableEq

namespace Fr
/-- A frame's two cells. -/
def cells (z : Fr) : List Value := [.int .i64 z.k, .int .i64 z.i]
/-- A frame's value. -/
def val (z : Fr) : Value := .agg #[.int .i64 z.k, .int .i64 z.i]
/-- Both are whole numbers of 64 bits. -/
def fits (z : Fr) : Prop := -9223372036854775808 ≤ z.k ∧ z.k ≤ 9223372036854775807 ∧ -9223372036854775808 ≤ z.i ∧ z.i ≤ 9223372036854775807
/-- May it be sent. -/
def right (z : Fr) : Bool := (z.k == 1 || z.k == 2) && (decide (0 ≤ z.i) && decide (z.i < 8))
/-- The nothing and the noise. -/
def none : Fr := ⟨0, 0⟩
def noise : Fr := ⟨3, 0⟩
theorem right_iff (z : Fr) : z.right = true ↔ (z.k = 1 ∨ z.k = 2) ∧ 0 ≤ z.i ∧ z.i < 8 := by simp [right]
theorem right_neg (z : Fr) (h : ¬ 0 ≤ z.i) : z.right = false := by unfold right; rw [decide_eq_false h]; simp
theorem right_nat {z : Fr} (h : z.right = true) : ∃ a b : Nat, (a = 1 ∨ a = 2) ∧ b < 8 ∧ z = ⟨a, b⟩ := by
  obtain ⟨h1, h2, h3⟩ := (right_iff z).1 h
  obtain ⟨k, i⟩ := z
  obtain ⟨b, rfl⟩ := Int.eq_ofNat_of_zero_le h2
  rcases h1 with rfl | rfl
  · exact ⟨1, b, Or.inl rfl, by simp at h3; omega, rfl⟩
  · exact ⟨2, b, Or.inr rfl, by simp at h3; omega, rfl⟩
end Fr

namespace Wire
/-- The three bytes ahead of the sum. -/
def head (a b : Int) : ByteArray := Go.strOfNums [216, a, b]
/-- The bytes of a frame that may be sent. -/
def body (a b : Int) : ByteArray := head a b ++ Crc.four (Crc.sum (head a b).data.toList)
/-- The bytes of a frame. -/
def put (z : Fr) : ByteArray := if z.k = 3 then ⟨#[0]⟩ else if z.right then body z.k z.i else ByteArray.empty
/-- What bytes are read as. -/
def getL (l : List UInt8) : Fr :=
  if l = [] then Fr.none
  else if l.length = 7 ∧ l.getD 0 0 = 216 ∧ Crc.val (l.drop 3) = Crc.sum (l.take 3) ∧ Fr.right ⟨(l.getD 1 0).toNat, (l.getD 2 0).toNat⟩ = true then ⟨(l.getD 1 0).toNat, (l.getD 2 0).toNat⟩
  else Fr.noise
def get (s : ByteArray) : Fr := getL s.data.toList

theorem fr16 (p : Nat → Nat → Bool) (h : (List.range 8).all (fun b => p 1 b && p 2 b) = true) (a b : Nat) (ha : a = 1 ∨ a = 2) (hb : b < 8) : p a b = true := by
  have h1 := List.all_eq_true.1 h b (List.mem_range.2 hb)
  rw [Bool.and_eq_true] at h1
  rcases ha with rfl | rfl
  · exact h1.1
  · exact h1.2

theorem body_facts (a b : Nat) (ha : a = 1 ∨ a = 2) (hb : b < 8) : (body a b).size = 7 ∧ (body a b).data.toList.getD 0 0 = 216 ∧ get (body a b) = ⟨a, b⟩ ∧ (head a b).size = 3 := by
  have h := fr16 (fun a b => decide ((body a b).size = 7 ∧ (body a b).data.toList.getD 0 0 = 216 ∧ get (body a b) = ⟨a, b⟩ ∧ (head a b).size = 3)) (by decide +kernel) a b ha hb
  exact of_decide_eq_true h

/-- The bytes with a bit of them changed. -/
def flipped (s : ByteArray) (k : Nat) : List Nat := (s.data.toList.map UInt8.toNat).set (k / 8) ((s.data.toList.map UInt8.toNat).getD (k / 8) 0 ^^^ 2 ^ (k % 8))
theorem flip_facts (a b : Nat) (ha : a = 1 ∨ a = 2) (hb : b < 8) (k : Nat) (hk : k < 56) : get (Go.strOfNums ((flipped (body a b) k).map Int.ofNat)) = Fr.noise := by
  have h := fr16 (fun a b => (List.range 56).all fun k => decide (get (Go.strOfNums ((flipped (body a b) k).map Int.ofNat)) = Fr.noise)) (by decide +kernel) a b ha hb
  exact of_decide_eq_true (List.all_eq_true.1 h k (List.mem_range.2 hk))

theorem four_val (d e f g : UInt8) : (Crc.four (Crc.val [d, e, f, g])).data.toList = [d, e, f, g] := by
  have hd := d.toNat_lt
  have he := e.toNat_lt
  have hf := f.toNat_lt
  have hg := g.toNat_lt
  have hv : Crc.val [d, e, f, g] = (d.toNat * 256 + e.toNat) * 65536 + f.toNat * 256 + g.toNat := rfl
  have h1 : Crc.four (Crc.val [d, e, f, g]) = Go.strOfNums ([d.toNat, e.toNat, f.toNat, g.toNat].map Int.ofNat) := by
    unfold Crc.four
    have e1 : ((Crc.val [d, e, f, g] : Nat) : Int) / 16777216 = Int.ofNat d.toNat := by rw [hv]; simp; omega
    have e2 : ((Crc.val [d, e, f, g] : Nat) : Int) / 65536 % 256 = Int.ofNat e.toNat := by rw [hv]; simp; omega
    have e3 : ((Crc.val [d, e, f, g] : Nat) : Int) / 256 % 256 = Int.ofNat f.toNat := by rw [hv]; simp; omega
    have e4 : ((Crc.val [d, e, f, g] : Nat) : Int) % 256 = Int.ofNat g.toNat := by rw [hv]; simp; omega
    rw [e1, e2, e3, e4]
    rfl
  have h2 := Crc.nums_back [d.toNat, e.toNat, f.toNat, g.toNat] (by
    intro x hx
    simp at hx
    rcases hx with rfl | rfl | rfl | rfl <;> assumption)
  rw [← h1] at h2
  generalize (Crc.four (Crc.val [d, e, f, g])).data.toList = l at h2
  have hlen : l.length = 4 := by have := congrArg List.length h2; simpa using this
  match l, hlen, h2 with
  | [a, b, c, x], _, h =>
    simp only [List.map_cons, List.map_nil, List.cons.injEq, and_true] at h
    obtain ⟨h1, h2, h3, h4⟩ := h
    rw [UInt8.toNat_inj.1 h1, UInt8.toNat_inj.1 h2, UInt8.toNat_inj.1 h3, UInt8.toNat_inj.1 h4]

theorem head_list (a b : UInt8) : (head a.toNat b.toNat).data.toList = [216, a, b] := by
  have ha := a.toNat_lt
  have hb := b.toNat_lt
  have h2 := Crc.nums_back [216, a.toNat, b.toNat] (by
    intro x hx
    simp at hx
    rcases hx with rfl | rfl | rfl <;> omega)
  have h1 : head a.toNat b.toNat = Go.strOfNums ([216, a.toNat, b.toNat].map Int.ofNat) := rfl
  rw [← h1] at h2
  generalize (head a.toNat b.toNat).data.toList = l at h2
  have hlen : l.length = 3 := by have := congrArg List.length h2; simpa using this
  match l, hlen, h2 with
  | [x, y, z], _, h =>
    simp only [List.map_cons, List.map_nil, List.cons.injEq, and_true] at h
    obtain ⟨h1, h2, h3⟩ := h
    rw [UInt8.toNat_inj.1 (show x.toNat = (216 : UInt8).toNat from h1), UInt8.toNat_inj.1 h2, UInt8.toNat_inj.1 h3]

theorem put_right {z : Fr} (h : z.right = true) : put z = body z.k z.i := by
  obtain ⟨a, b, ha, hb, rfl⟩ := Fr.right_nat h
  unfold put
  rw [if_neg (by rcases ha with rfl | rfl <;> simp), if_pos h]

theorem get_put {z : Fr} (h : z.right = true) : get (put z) = z := by
  rw [put_right h]
  obtain ⟨a, b, ha, hb, rfl⟩ := Fr.right_nat h
  exact (body_facts a b ha hb).2.2.1

theorem seven (l : List UInt8) (h : l.length = 7) : ∃ a b c d e f g, l = [a, b, c, d, e, f, g] :=
  match l, h with
  | [a, b, c, d, e, f, g], _ => ⟨a, b, c, d, e, f, g, rfl⟩
/-- Bytes that are read as a frame that may be sent are that frame's. -/
theorem put_get (s : ByteArray) (h : (get s).right = true) : put (get s) = s := by
  rw [put_right h]
  unfold get at h ⊢
  have hl : s.data.toList.length = s.size := Array.length_toList
  have hs : ∀ t : ByteArray, t.data.toList = s.data.toList → t = s := by
    intro t ht
    obtain ⟨⟨x⟩⟩ := t
    obtain ⟨⟨y⟩⟩ := s
    cases ht
    rfl
  apply hs
  generalize s.data.toList = l at *
  unfold getL at h ⊢
  by_cases e : l = []
  · rw [if_pos e] at h; cases h
  rw [if_neg e] at h ⊢
  by_cases c : l.length = 7 ∧ l.getD 0 0 = 216 ∧ Crc.val (l.drop 3) = Crc.sum (l.take 3) ∧ Fr.right ⟨(l.getD 1 0).toNat, (l.getD 2 0).toNat⟩ = true
  · rw [if_pos c]
    obtain ⟨c1, c2, c3, c4⟩ := c
    obtain ⟨a, b, c, d, e', f, g, rfl⟩ := seven l c1
    · have c2' : a = 216 := c2
      subst c2'
      have c3' : Crc.val [d, e', f, g] = Crc.sum [216, b, c] := c3
      show (head b.toNat c.toNat ++ Crc.four (Crc.sum (head b.toNat c.toNat).data.toList)).data.toList = _
      rw [head_list, ← c3']
      have ha : ∀ x y : ByteArray, (x ++ y).data.toList = x.data.toList ++ y.data.toList := by
        intro x y
        simp
      rw [ha, four_val, head_list]
      rfl
  · rw [if_neg c] at h; cases h

theorem get_cases (s : ByteArray) : (s.size = 0 ∧ get s = Fr.none) ∨ (s.size ≠ 0 ∧ (get s).right = true) ∨ (s.size ≠ 0 ∧ get s = Fr.noise) := by
  have hl : s.data.toList.length = s.size := Array.length_toList
  unfold get getL
  by_cases e : s.data.toList = []
  · rw [if_pos e]
    rw [e] at hl
    exact Or.inl ⟨hl.symm, rfl⟩
  · rw [if_neg e]
    have hne : s.size ≠ 0 := by
      rw [← hl]
      intro h
      exact e (List.eq_nil_of_length_eq_zero h)
    split
    · rename_i c
      exact Or.inr (Or.inl ⟨hne, c.2.2.2⟩)
    · exact Or.inr (Or.inr ⟨hne, rfl⟩)

theorem get_empty : get ByteArray.empty = Fr.none := rfl
theorem get_long (s : ByteArray) (h : 7 < s.size) : get s = Fr.noise := by
  have hl : s.data.toList.length = s.size := Array.length_toList
  unfold get getL
  rw [if_neg (by intro e; rw [e] at hl; simp at hl; omega), if_neg (by rintro ⟨h1, _⟩; omega)]
theorem get_not_seven (s : ByteArray) (h0 : s.size ≠ 0) (h : ¬ s.size = 7) : get s = Fr.noise := by
  have hl : s.data.toList.length = s.size := Array.length_toList
  unfold get getL
  rw [if_neg (by intro e; rw [e] at hl; exact h0 hl.symm), if_neg (by rintro ⟨h1, _⟩; omega)]
theorem get_seven (s : ByteArray) (h : s.size = 7) : get s = if s[0].toNat = 216 ∧ Crc.val (s.extract 3 7).data.toList = Crc.sum (s.extract 0 3).data.toList ∧ Fr.right ⟨(s[1].toNat : Int), (s[2].toNat : Int)⟩ = true then ⟨(s[1].toNat : Int), (s[2].toNat : Int)⟩ else Fr.noise := by
  obtain ⟨⟨l⟩⟩ := s
  obtain ⟨a, b, c, d, e, f, g, rfl⟩ := seven l h
  have h1 : ∀ x : UInt8, x = 216 ↔ x.toNat = 216 := fun x => ⟨fun h => by rw [h]; rfl, fun h => UInt8.toNat_inj.1 h⟩
  have hA : get ⟨⟨[a, b, c, d, e, f, g]⟩⟩ = if 7 = 7 ∧ a = 216 ∧ Crc.val [d, e, f, g] = Crc.sum [a, b, c] ∧ Fr.right ⟨(b.toNat : Int), (c.toNat : Int)⟩ = true then ⟨(b.toNat : Int), (c.toNat : Int)⟩ else Fr.noise := rfl
  rw [hA]
  have hB : ((⟨⟨[a, b, c, d, e, f, g]⟩⟩ : ByteArray).extract 3 7).data.toList = [d, e, f, g] := by rw [Lib.extract_data]; rfl
  have hC : ((⟨⟨[a, b, c, d, e, f, g]⟩⟩ : ByteArray).extract 0 3).data.toList = [a, b, c] := by rw [Lib.extract_data]; rfl
  rw [hB, hC]
  simp only [h1, true_and]
  rfl
theorem get_zero : get ⟨#[0]⟩ = Fr.noise := by decide +kernel
theorem put_size {z : Fr} (h : z.right = true) : (put z).size = 7 := by
  rw [put_right h]
  obtain ⟨a, b, ha, hb, rfl⟩ := Fr.right_nat h
  exact (body_facts a b ha hb).1
/-- No frame that may be sent has these bytes, and they are not none: noise. -/
theorem get_search (s : ByteArray) (h0 : s.size ≠ 0) (h : ∀ z : Fr, z.right = true → put z ≠ s) : get s = Fr.noise := by
  rcases get_cases s with h1 | h1 | h1
  · exact absurd h1.1 h0
  · exact absurd (put_get s h1.2) (h _ h1.2)
  · exact h1.2
theorem put_inj {y z : Fr} (hy : y.right = true) (hz : z.right = true) (h : put y = put z) : y = z := by
  rw [← get_put hy, h, get_put hz]
end Wire
end Go.Proofs.Ytpbkoooljelhjaa
