/-
  CrcBurst: the walk of the statement's own function.
-/
import Derived.Test.YtpbkoooljelhjaaCrc2
import Derived.Test.YtpbkoooljelhjaaCrc3
import Derived.OpenShut
namespace Go.Proofs.Ytpbkoooljelhjaa.CrcBurst
open Go.RowKit

/-- What the bytes' block holds. -/
structure Row (w : World) (B n : Nat) (L : List Nat) : Prop where
  len : L.length = n
  lt : ∀ x ∈ L, x < 256
  cell : ∀ j, j < n → w.cell? ⟨B, j, none⟩ = some (.int .u8 ((L.getD j 0 : Nat) : Int))
  free : ∀ j, j < n → w.frozen? ⟨B, j, none⟩ = false

theorem Row.set {w : World} {B n : Nat} {L : List Nat} (h : Row w B n L) (d m : Nat) (hd : d < n) (hm : m < 256) :
    Row (w.setCell ⟨B, d, none⟩ (.int .u8 ((L.getD d 0 ^^^ m : Nat) : Int))) B n (L.set d (L.getD d 0 ^^^ m)) where
  len := by rw [List.length_set]; exact h.len
  lt := Crc.flip_lt L d m h.lt (by rw [h.len]; exact hd) hm
  cell := fun j hj => by
    by_cases e : j = d
    · subst e
      rw [World.cell?_setCell_same' w _ _ (by rw [h.cell j hj]; rfl)]
      rw [Crc.getD_set_self _ _ _ (by rw [h.len]; exact hj)]
    · rw [World.cell?_setCell_other _ _ _ _ (by intro h2; injection h2 with _ h3; exact e h3.symm), h.cell j hj]
      rw [Crc.getD_set_ne _ _ _ _ e]
  free := fun j hj => by rw [World.frozen?_setCell]; exact h.free j hj

set_option maxHeartbeats 1000000 in
set_option maxRecDepth 100000 in
/-- The inner loop and the store, and the end of a round: one flip. -/
theorem walk1 (s : ByteArray) (at0 bits0 : Nat) (hs : s.size ≤ 300) (h1 : 1 ≤ s.size) (hat : at0 < 65536) (hbits : bits0 < 4294967296) (hb1 : 1 ≤ bits0) (w : World) :
    Calls Try.prog 4 #[.string s, .int .u16 at0, .int .u32 bits0] w fun e w' => e = .returned (.bool true) ∧ Below w.heap.size w w' := by
  obtain ⟨f, hfe, hf⟩ : ∃ f : Nat, (at0 : Int) % (8 * (s.size : Int)) = (f : Int) ∧ f < 8 * s.size := ⟨at0 % (8 * s.size), by simp, Nat.mod_lt _ (by omega)⟩
  obtain ⟨cap, F, hrun, hF⟩ := Kit.conv_bytes (P := Try.prog) 9 31 5 Try.underlying9 Try.underlying31 Try.underlying5 s
  obtain ⟨hB, hz, hcell, hfree⟩ := hF w
  replace hrun := hrun w
  generalize F w = W1 at hrun hB hz hcell hfree
  clear hF
  have hl : s.data.toList.length = s.size := Array.length_toList
  have hrow : Row W1 w.heap.size s.size (s.data.toList.map UInt8.toNat) := {
    len := by rw [List.length_map]; exact hl
    lt := by
      intro x hx
      obtain ⟨b, _, rfl⟩ := List.mem_map.1 hx
      exact b.toNat_lt
    cell := fun j hj => by
      rw [hcell j (by omega), List.getD_eq_getElem?_getD, List.getElem?_map, List.getElem?_eq_getElem (by omega)]
      rfl
    free := hfree }
  have HB := Lib.hid hB
  have HR := Lib.hid hrow
  have HL := Lib.hid hl
  clear hB hcell hz hl hfree hrow
  have t1 : decide ((300 : Int) < (s.size : Int)) = false := by simp; omega
  have t2 : ((s.size : Int) == 0) = false := by rw [beq_eq_false_iff_ne]; omega
  have t3 : ((bits0 : Int) == 0) = false := by rw [beq_eq_false_iff_ne]; omega
  go_enter Try.func4, Try.ntmps4
  go_wp2_with fail
  rw [hfe]
  clear t1 t2 t3 hfe hrun
  go_loopw [2, 9, 10, 11, 12, 13] (fun vb vc vi _ _ _ wr => ∃ (i : Nat) (L : List Nat), i ≤ 32 ∧ f + i ≤ 8 * s.size ∧ vi = .int .i64 i ∧ vb = .int .u32 (bits0 / 2 ^ i : Nat) ∧ vc = .bool (decide (bits0 % 2 ^ i ≠ 0)) ∧
    Hid (Row wr w.heap.size s.size L) ∧ Hid (Crc.num L = Crc.num (s.data.toList.map UInt8.toNat) ^^^ 2 ^ f * (bits0 % 2 ^ i)) ∧ Hid (Below w.heap.size w wr)) (fun _ _ vi _ _ _ _ => 32 - (intOf vi).toNat)
  case atStart => exact ⟨0, _, by omega, by omega, rfl, by rw [Nat.pow_zero, Nat.div_one], by simp [Nat.mod_one], HR, Lib.hid (by rw [Nat.pow_zero, Nat.mod_one, Nat.mul_zero, Nat.xor_zero]), HB⟩
  case round =>
    obtain ⟨i, L, hi, hfi, rfl, rfl, rfl, HRr, HN, HBr⟩ := hrel
    by_cases hc : i < 32 ∧ f + i < 8 * s.size
    · obtain ⟨hc1, hc2⟩ := hc
      obtain ⟨k8, hk8, hk8'⟩ : ∃ k8 : Nat, ((f : Int) + (i : Int)) % 8 = (k8 : Int) ∧ k8 = (f + i) % 8 := ⟨(f + i) % 8, by omega, rfl⟩
      obtain ⟨d, hd, hd'⟩ : ∃ d : Nat, ((f : Int) + (i : Int)) / 8 = (d : Int) ∧ d = (f + i) / 8 := ⟨(f + i) / 8, by omega, rfl⟩
      have HK := Lib.hid hk8'
      have HD := Lib.hid hd'
      have hk7 : k8 ≤ 7 := by omega
      have hds : d < s.size := by omega
      have hdiv : bits0 / 2 ^ i < 4294967296 := Nat.lt_of_le_of_lt (Nat.div_le_self _ _) hbits
      have hnx : bits0 / 2 ^ i / 2 = bits0 / 2 ^ (i + 1) := by rw [Nat.pow_succ, Nat.div_div_eq_div_mul]
      have HX := Lib.hid hnx
      clear hnx hk8' hd'
      by_cases hbit : bits0 / 2 ^ i % 2 = 1
      · have HBit := Lib.hid hbit
        have e1 : (((bits0 / 2 ^ i : Nat) : Int) % 2 == 1) = true := by rw [beq_iff_eq]; omega
        have HFl : Hid (∀ L N, (f + i) / 8 < L.length → Crc.num L = N ^^^ 2 ^ f * (bits0 % 2 ^ i) → Crc.num (L.set ((f + i) / 8) (L.getD ((f + i) / 8) 0 ^^^ 2 ^ ((f + i) % 8))) = N ^^^ 2 ^ f * (bits0 % 2 ^ (i + 1))) := Lib.hid (fun L N hL h => Crc.flip_num L N f bits0 i hL h hbit)
        have hm1 : decide (bits0 % 2 ^ (i + 1) ≠ 0) = true := by rw [Crc.mod_one bits0 i hbit]; have := Nat.two_pow_pos i; first | (simp; done) | (simp; omega)
        have HM1 := Lib.hid hm1
        clear hbit hm1
        generalize bits0 / 2 ^ i = bi at *
        go_wp2_with fail
        obtain ⟨wo, rfl⟩ : ∃ wo : World, wo = wr := ⟨_, rfl⟩
        go_loop [12, 13] (fun vo vn => ∃ m : Nat, m ≤ k8 ∧ vn = .int .i64 m ∧ vo = .int .u8 (2 ^ m : Nat)) (fun _ vn => k8 - (intOf vn).toNat)
        case atStart => exact ⟨0, by omega, rfl, rfl⟩
        case round =>
          obtain ⟨m, hm, rfl, rfl⟩ := hrel
          by_cases hm1 : m < k8
          · have hp := Crc.pow_lt7 m (by omega)
            have hq : 2 ^ (m + 1) = 2 ^ m * 2 := Nat.pow_succ ..
            have HQ := Lib.hid hq
            clear hq
            generalize 2 ^ m = o at *
            go_wp2_with fail
            go_round
            case rel => exact ⟨m + 1, by omega, by go_num, by rw [HQ.out]; go_num⟩
            case measure => simp [intOf]; omega
          · obtain rfl : m = k8 := by omega
            have hdL : (f + i) / 8 < L.length := by rw [HRr.out.len, ← HD.out]; exact hds
            have hrow2 := HRr.out.set d (2 ^ m) hds (Crc.pow_lt8 m hk7)
            have hnum2 : Crc.num (L.set d (L.getD d 0 ^^^ 2 ^ m)) = Crc.num (s.data.toList.map UInt8.toNat) ^^^ 2 ^ f * (bits0 % 2 ^ (i + 1)) := by
              have h0 := HFl.out L _ hdL HN.out
              rw [← HD.out, ← HK.out] at h0
              exact h0
            have hcl := HRr.out.cell d hds
            have hfz := HRr.out.free d hds
            have hb := Crc.getD_lt L d HRr.out.lt
            have ho := Crc.pow_lt8 m hk7
            have HR2 := Lib.hid hrow2
            have HN2 := Lib.hid hnum2
            clear hrow2 hnum2
            generalize L.getD d 0 = b at *
            generalize 2 ^ m = o at *
            have hx := u8_xor_nat b o hb ho
            have hB2 : Below w.heap.size w (wo.setCell ⟨w.heap.size, d, none⟩ (.int .u8 ((b ^^^ o : Nat) : Int))) := HBr.out.setCell (by simp) _
            have HB2 := Lib.hid hB2
            clear hB2
            go_wp2_with fail
            go_roundw
            case rel => exact ⟨i + 1, L.set d (b ^^^ o), by omega, by omega, by go_num, by rw [← HX.out]; go_num, by rw [HM1.out], HR2, HN2, HB2⟩
            case measure => simp [intOf]; omega
      · have HBit : Hid (bits0 / 2 ^ i % 2 = 0) := Lib.hid (by omega)
        have e1 : (((bits0 / 2 ^ i : Nat) : Int) % 2 == 1) = false := by rw [beq_eq_false_iff_ne]; omega
        have hm0 := Crc.mod_zero bits0 i HBit.out
        have HM0 := Lib.hid hm0
        clear hbit hm0
        generalize bits0 / 2 ^ i = bi at *
        go_wp2_with fail
        go_roundw
        case rel => exact ⟨i + 1, L, by omega, by omega, by go_num, by rw [← HX.out]; go_num, by rw [HM0.out]; simp, HRr, Lib.hid (by rw [HM0.out]; exact HN.out), HBr⟩
        case measure => simp [intOf]; omega
    · have hp : bits0 % 2 ^ i < 4294967296 := Nat.lt_of_le_of_lt (Nat.mod_le _ _) hbits
      have hlt0 : s.size ≠ 0 → w.heap.size < wr.heap.size := fun _ => World.block_lt_of_cell? wr ⟨w.heap.size, 0, none⟩ (HRr.out.cell 0 (by omega))
      have hcv := fun (W : World) (hW : Below wr.heap.size wr W) => run_convert_bytes_arg (P := Try.prog) W 31 5 Try.underlying31 Try.underlying5 w.heap.size 0 s.size (cap w) (L.map Int.ofNat) (by rw [List.length_map]; exact HRr.out.len)
        (fun j hj => by
          rw [Nat.zero_add, hW.cell (p := ⟨w.heap.size, j, none⟩) (hlt0 (by omega)), HRr.out.cell j hj, List.getD_eq_getElem?_getD, List.getD_eq_getElem?_getD, List.getElem?_map]
          have hjL : j < L.length := by rw [HRr.out.len]; exact hj
          rw [List.getElem?_eq_getElem hjL]
          rfl) 9 Try.underlying9
      have hlen : (strOfNums (L.map Int.ofNat)).size = s.size := by rw [strOfNums_size, List.length_map]; exact HRr.out.len
      have hlT : (strOfNums (L.map Int.ofNat)).data.toList.length = s.data.toList.length := by
        have h1 : (strOfNums (L.map Int.ofNat)).data.toList.length = (strOfNums (L.map Int.ofNat)).size := Array.length_toList
        rw [h1, hlen, HL.out]
      have hbst := Crc.burst s.data.toList (strOfNums (L.map Int.ofNat)).data.toList hlT f (bits0 % 2 ^ i) (by rw [HL.out]; omega) hp
        (by rw [Crc.nums_back L HRr.out.lt]; exact HN.out)
      have c1 := fun w => Crc.sum_calls (strOfNums (L.map Int.ofNat)) w (by omega)
      have c2 := fun w => Crc.sum_calls s w (by omega)
      clear hlen hlT hp
      generalize strOfNums (L.map Int.ofNat) = T at *
      generalize Crc.sum s.data.toList = q1 at *
      generalize Crc.sum T.data.toList = q2 at *
      have hend : (((q2 : Int) != (q1 : Int)) == decide (bits0 % 2 ^ i ≠ 0)) = true := by
        by_cases hz : q2 = q1
        · have := hbst.1 hz
          simp [hz, this]
        · have : bits0 % 2 ^ i ≠ 0 := fun h => hz (hbst.2 h)
          have h2 : ¬ (q2 : Int) = (q1 : Int) := by omega
          simp [this, h2]
      generalize decide (bits0 % 2 ^ i ≠ 0) = ch at *
      clear hbst
      by_cases h32 : i < 32
      · have h8 : ¬ ((f : Int) + (i : Int) < 8 * (s.size : Int)) := by omega
        go_wp2_with fail
        refine (Crc.awake_calls _).mono ?_
        rintro e w2 ⟨rfl, b2⟩
        have hcv2 := hcv w2 b2
        have B2 := Lib.hid b2
        clear b2 hcv
        go_wp2_with fail
        refine (c1 _).mono ?_
        rintro e w3 ⟨rfl, b3⟩
        go_wp2_with fail
        refine (c2 _).mono ?_
        rintro e w4 ⟨rfl, b4⟩
        go_wp2_with fail
        go_ret
        exact ⟨rfl, HBr.out.trans ((Kit.chain B2.out (Kit.chain b3 b4)).mono HBr.out.size)⟩
      · have h8 : 32 ≤ i := by omega
        go_wp2_with fail
        refine (Crc.awake_calls _).mono ?_
        rintro e w2 ⟨rfl, b2⟩
        have hcv2 := hcv w2 b2
        have B2 := Lib.hid b2
        clear b2 hcv
        go_wp2_with fail
        refine (c1 _).mono ?_
        rintro e w3 ⟨rfl, b3⟩
        go_wp2_with fail
        refine (c2 _).mono ?_
        rintro e w4 ⟨rfl, b4⟩
        go_wp2_with fail
        go_ret
        exact ⟨rfl, HBr.out.trans ((Kit.chain B2.out (Kit.chain b3 b4)).mono HBr.out.size)⟩

set_option maxHeartbeats 400000 in
set_option maxRecDepth 100000 in
theorem walk0 (s : ByteArray) (at0 bits0 : Nat) (h : 300 < s.size ∨ s.size = 0 ∨ bits0 = 0) (hs : s.size ≤ maxLen) (w : World) :
    Calls Try.prog 4 #[.string s, .int .u16 at0, .int .u32 bits0] w fun e w' => e = .returned (.bool true) ∧ Below w.heap.size w w' := by
  unfold maxLen at hs
  by_cases h1 : 300 < s.size
  · have t1 : decide ((300 : Int) < (s.size : Int)) = true := by simp; omega
    go_enter Try.func4, Try.ntmps4
    go_wp2_with fail
    refine (Crc.awake_calls _).mono ?_
    rintro e w3 ⟨rfl, h3⟩
    go_wp2_with fail
    go_ret
    exact ⟨rfl, h3⟩
  · by_cases h2 : s.size = 0
    · have t1 : decide ((300 : Int) < (s.size : Int)) = false := by simp; omega
      have t2 : ((s.size : Int) == 0) = true := by rw [beq_iff_eq]; omega
      clear h h1 h2
      go_enter Try.func4, Try.ntmps4
      go_wp2_with fail
      refine (Crc.awake_calls _).mono ?_
      rintro e w3 ⟨rfl, h3⟩
      go_wp2_with fail
      go_ret
      exact ⟨rfl, h3⟩
    · have h3 : bits0 = 0 := by omega
      have t1 : decide ((300 : Int) < (s.size : Int)) = false := by simp; omega
      have t2 : ((s.size : Int) == 0) = false := by rw [beq_eq_false_iff_ne]; omega
      subst h3
      clear h h1 h2
      go_enter Try.func4, Try.ntmps4
      go_wp2_with fail
      refine (Crc.awake_calls _).mono ?_
      rintro e w3 ⟨rfl, h3⟩
      go_wp2_with fail
      go_ret
      exact ⟨rfl, h3⟩

theorem walk (a0 : ByteArray) (a1 a2 : Int) (w0 : a0.size ≤ maxLen) (w1 : (Lit.int .u16 a1).wf = true) (w2 : (Lit.int .u32 a2).wf = true) (w : World) :
    Calls Try.prog 4 #[.string a0, .int .u16 a1, .int .u32 a2] w fun e w' => e = .returned (.bool true) ∧ Below w.heap.size w w' := by
  have b1 := bounds_u16 w1
  have b2 := bounds_u32 w2
  obtain ⟨r, rfl⟩ := Int.eq_ofNat_of_zero_le b1.1
  obtain ⟨b, rfl⟩ := Int.eq_ofNat_of_zero_le b2.1
  by_cases h : 300 < a0.size ∨ a0.size = 0 ∨ b = 0
  · exact walk0 a0 r b h w0 w
  · exact walk1 a0 r b (by omega) (by omega) (by omega) (by omega) (by omega) w
end Go.Proofs.Ytpbkoooljelhjaa.CrcBurst
