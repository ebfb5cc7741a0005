/-
  WireBack: the walk of the statement's own function.
-/
import Derived.Test.YtpbkoooljelhjaaWire3
import Derived.Test.YtpbkoooljelhjaaOp2
import Derived.Test.YtpbkoooljelhjaaCrcBurstW
import Derived.Deep.RegionHeld3
import Derived.BigRegion
namespace Go.Proofs.Ytpbkoooljelhjaa.WireBack
set_option linter.unusedVariables false
set_option linter.unusedSimpArgs false
open Go.RowKit


open CrcBurst (Row)
theorem Row.below {w w' : World} {B : Nat} {L : List Nat} (h : Row w B 7 L) (hb : Below w.heap.size w w') : Row w' B 7 L where
  len := h.len
  lt := h.lt
  cell := fun j hj => Kit.cell_below hb (h.cell j hj)
  free := fun j hj => (hb.frozen (p := ⟨B, j, none⟩) (World.block_lt_of_cell? w ⟨B, j, none⟩ (h.cell j hj))).trans (h.free j hj)
theorem _root_.Go.Proofs.Ytpbkoooljelhjaa.CrcBurst.Row.below {w w' : World} {B : Nat} {L : List Nat} (h : Row w B 7 L) (hb : Below w.heap.size w w') : Row w' B 7 L := WireBack.Row.below h hb
theorem _root_.Go.Proofs.Ytpbkoooljelhjaa.CrcBurst.Row.drew {w : World} {B : Nat} {L : List Nat} (h : Row w B 7 L) : Row w.drew B 7 L := WireBack.Row.below h (Below.refl _ _).drew
theorem back {W : World} {B : Nat} {L : List Nat} (h : Row W B 7 L) (cap : Nat) : (convert 31 9 (.slice (some ⟨B, 0, Option.none⟩) 7 cap)).run Try.prog W = .ok (.string (strOfNums (L.map Int.ofNat))) W :=
  run_convert_bytes_arg (P := Try.prog) W 31 5 Try.underlying31 Try.underlying5 B 0 7 cap (L.map Int.ofNat) (by rw [List.length_map]; exact h.len)
    (fun j hj => by
      rw [Nat.zero_add, h.cell j hj, List.getD_eq_getElem?_getD, List.getD_eq_getElem?_getD, List.getElem?_map]
      have hjL : j < L.length := by rw [h.len]; exact hj
      rw [List.getElem?_eq_getElem hjL]
      rfl) 9 Try.underlying9

set_option maxHeartbeats 1000000 in
set_option maxRecDepth 100000 in
theorem wrong (k i : Int) (b : Nat) (hf : Fr.right ⟨k, i⟩ = false) (w : World) :
    Calls Try.prog 10 #[.agg #[.int .i64 k, .int .i64 i], .int .u8 b] w fun e w' => e = .returned (.bool true) ∧ Below w.heap.size w w' := by
  have c1 := fun w => Wire.put_calls ⟨k, i⟩ w
  have c2 := fun w => Wire.right_calls ⟨k, i⟩ w
  rw [hf] at c2
  simp only at c1 c2
  by_cases h3 : k = 3
  · subst h3
    have ep : Wire.put ⟨3, i⟩ = ⟨#[0]⟩ := if_pos rfl
    rw [ep] at c1
    have c3 := fun w => Wire.get_calls ⟨#[0]⟩ w (by decide)
    rw [Wire.get_zero] at c3
    have e0 : (⟨#[0]⟩ : ByteArray).toList.isEmpty = false := Kit.str_full (by decide)
    generalize (⟨#[0]⟩ : ByteArray) = q at *
    simp only [Fr.noise] at c3
    have hfd := fun w => Wire.field_k 3 0 w
    go_enter Try.func10, Try.ntmps10
    go_wp2_with fail
    refine (c1 _).mono ?_
    rintro e w1 ⟨rfl, b1⟩
    have y0 := Kit.cell_new b1 0 rfl
    have y1 := Kit.cell_new b1 1 rfl
    have B1 := Lib.hid (Kit.chain ((Below.refl _ _).alloc (Nat.le_refl _) _) b1)
    clear b1
    go_wp2_with fail
    refine (c2 _).mono ?_
    rintro e w2 ⟨rfl, b2⟩
    have z0 := Kit.cell_below b2 y0
    have B2 := Lib.hid (Kit.chain B1.out b2)
    clear b2 y0 y1
    go_wp2_with fail
    refine (Wire.awake_calls _).mono ?_
    rintro e w3 ⟨rfl, b3⟩
    have x0 := Kit.cell_below b3 z0
    have B3 := Lib.hid (Kit.chain B2.out b3)
    clear b3 z0
    go_wp2_with fail
    refine (c3 _).mono ?_
    rintro e w4 ⟨rfl, b4⟩
    go_wp2_with fail
    go_ret
    exact ⟨rfl, Kit.chain B3.out b4⟩
  · have ep : Wire.put ⟨k, i⟩ = ByteArray.empty := by unfold Wire.put; rw [if_neg h3, hf]; rfl
    rw [ep] at c1
    go_enter Try.func10, Try.ntmps10
    go_wp2_with fail
    refine (c1 _).mono ?_
    rintro e w1 ⟨rfl, b1⟩
    have y0 := Kit.cell_new b1 0 rfl
    have y1 := Kit.cell_new b1 1 rfl
    have B1 := Lib.hid (Kit.chain ((Below.refl _ _).alloc (Nat.le_refl _) _) b1)
    clear b1
    go_wp2_with fail
    refine (c2 _).mono ?_
    rintro e w2 ⟨rfl, b2⟩
    have z0 := Kit.cell_below b2 y0
    have B2 := Lib.hid (Kit.chain B1.out b2)
    clear b2 y0 y1
    go_wp2_with fail
    refine (Wire.awake_calls _).mono ?_
    rintro e w3 ⟨rfl, b3⟩
    have x0 := Kit.cell_below b3 z0
    have B3 := Lib.hid (Kit.chain B2.out b3)
    clear b3 z0
    go_wp2_with fail
    go_ret
    exact ⟨rfl, B3.out⟩

set_option maxHeartbeats 2000000 in
set_option maxRecDepth 100000 in
theorem good (k i : Nat) (b : Nat) (hk : k = 1 ∨ k = 2) (hi : i < 8) (hb : b < 256) (w : World) :
    Calls Try.prog 10 #[.agg #[.int .i64 k, .int .i64 i], .int .u8 b] w fun e w' => e = .returned (.bool true) ∧ Below w.heap.size w w' := by
  have hr : Fr.right ⟨(k : Int), (i : Int)⟩ = true := (Fr.right_iff _).2 ⟨by simp; omega, by simp, by simp; omega⟩
  have c1 := fun w => Wire.put_calls ⟨k, i⟩ w
  have cr := fun w => Wire.right_calls ⟨k, i⟩ w
  rw [hr] at cr
  obtain ⟨kk, hkk, hkk'⟩ : ∃ kk : Nat, (b : Int) % 56 = (kk : Int) ∧ kk < 56 := ⟨b % 56, by omega, by omega⟩
  obtain ⟨k8, hk8, hk8'⟩ : ∃ k8 : Nat, (kk : Int) % 8 = (k8 : Int) ∧ k8 = kk % 8 := ⟨kk % 8, by omega, rfl⟩
  obtain ⟨d, hd, hd'⟩ : ∃ d : Nat, (kk : Int) / 8 = (d : Int) ∧ d = kk / 8 := ⟨kk / 8, by omega, rfl⟩
  have hk7 : k8 ≤ 7 := by omega
  have hd7 : d < 7 := by omega
  have hfl := Wire.flip_facts k i hk hi kk hkk'
  have hbody : Wire.body k i = Wire.put ⟨(k : Int), (i : Int)⟩ := (Wire.put_right hr).symm
  rw [hbody] at hfl
  unfold Wire.flipped at hfl
  rw [← hk8', ← hd'] at hfl
  have s7 := Wire.put_size hr
  have c2 := fun w => Wire.get_calls (Wire.put ⟨k, i⟩) w (by rw [s7]; decide)
  rw [Wire.get_put hr] at c2
  have c3 := fun w => Wire.get_calls (Go.strOfNums ((((Wire.put ⟨(k : Int), (i : Int)⟩).data.toList.map UInt8.toNat).set d (((Wire.put ⟨(k : Int), (i : Int)⟩).data.toList.map UInt8.toNat).getD d 0 ^^^ 2 ^ k8)).map Int.ofNat)) w (by
    rw [strOfNums_size, List.length_map, List.length_set, List.length_map]
    have hl : (Wire.put ⟨(k : Int), (i : Int)⟩).data.toList.length = (Wire.put ⟨(k : Int), (i : Int)⟩).size := Array.length_toList
    rw [hl, s7]; decide)
  rw [hfl] at c3
  clear hfl hbody hr hk8' hd'
  generalize Wire.put ⟨(k : Int), (i : Int)⟩ = q at *
  simp only [Fr.noise] at c1 c2 c3 cr
  obtain ⟨capf, F, hrun, hF⟩ := Kit.conv_bytes (P := Try.prog) 9 31 5 Try.underlying9 Try.underlying31 Try.underlying5 q
  have HF := Lib.hid hF
  have hl : q.data.toList.length = q.size := Array.length_toList
  have HL := Lib.hid hl
  clear hF hl
  go_enter Try.func10, Try.ntmps10
  go_wp2_with fail
  refine (c1 _).mono ?_
  rintro e w1 ⟨rfl, b1⟩
  have y0 := Kit.cell_new b1 0 rfl
  have y1 := Kit.cell_new b1 1 rfl
  have B1 := Lib.hid (Kit.chain ((Below.refl _ _).alloc (Nat.le_refl _) _) b1)
  clear b1
  go_wp2_with fail
  refine (cr _).mono ?_
  rintro e w2 ⟨rfl, b2⟩
  have z0 := Kit.cell_below b2 y0
  have z1 := Kit.cell_below b2 y1
  have B2 := Lib.hid (Kit.chain B1.out b2)
  clear b2 y0 y1
  replace hrun := hrun w2
  obtain ⟨hB, hz, hcell, hfree⟩ := HF.out w2
  have hrow : Row (F w2) w2.heap.size 7 (q.data.toList.map UInt8.toNat) := {
    len := by rw [List.length_map, HL.out]; exact s7
    lt := by
      intro x hx
      obtain ⟨b, _, rfl⟩ := List.mem_map.1 hx
      exact b.toNat_lt
    cell := fun j hj => by
      have hj' : j < q.data.toList.length := by rw [HL.out, s7]; exact hj
      rw [hcell j hj', List.getD_eq_getElem?_getD, List.getElem?_map, List.getElem?_eq_getElem hj']
      rfl
    free := fun j hj => hfree j (by rw [s7]; exact hj) }
  have hws : w.heap.size < w2.heap.size := World.block_lt_of_cell? w2 ⟨w.heap.size, 0, Option.none⟩ z0
  have x0 := Kit.cell_below hB z0
  have x1 := Kit.cell_below hB z1
  have B3 := Lib.hid (Kit.chain B2.out hB)
  have HR := Lib.hid hrow
  generalize F w2 = W at *
  generalize capf w2 = cap at *
  clear HF hrow hcell hfree hB hz z0 z1
  rw [s7] at hrun
  go_wp2_with fail
  go_loop [8, 9] (fun vo vn => ∃ m : Nat, m ≤ k8 ∧ vn = .int .i64 m ∧ vo = .int .u8 (2 ^ m : Nat)) (fun _ vn => k8 - (intOf vn).toNat)
  case atStart => exact ⟨0, by omega, rfl, rfl⟩
  case round =>
    obtain ⟨m, hm, rfl, rfl⟩ := hrel
    by_cases hm1 : m < k8
    · have hp := Crc.pow_lt7 m (by omega)
      have hq : 2 ^ (m + 1) = 2 ^ m * 2 := Nat.pow_succ ..
      have HQ := Lib.hid hq
      clear hq
      generalize 2 ^ m = o at *
      go_wp2_with fail
      go_round
      case rel => exact ⟨m + 1, by omega, by go_num, by rw [HQ.out]; go_num⟩
      case measure => simp [intOf]; omega
    · obtain rfl : m = k8 := by omega
      have HR00 := HR.out.set d (2 ^ m) hd7 (Crc.pow_lt8 m hk7)
      have hcl := HR.out.cell d hd7
      have hfz := HR.out.free d hd7
      have hbl := Crc.getD_lt (q.data.toList.map UInt8.toNat) d HR.out.lt
      have hol := Crc.pow_lt8 m hk7
      have HR0 := Lib.hid HR00
      clear HR00
      generalize (q.data.toList.map UInt8.toNat).getD d 0 = bb at *
      generalize 2 ^ m = o at *
      have hx := u8_xor_nat bb o hbl hol
      have hws2 : w.heap.size ≠ w2.heap.size := by omega
      have u0 : (W.setCell ⟨w2.heap.size, d, Option.none⟩ (.int .u8 ((bb ^^^ o : Nat) : Int))).cell? ⟨w.heap.size, 0, Option.none⟩ = some (.int .i64 (k : Int)) := by rw [World.cell?_setCell_other _ _ _ _ (by intro h; injection h; omega)]; exact x0
      have u1 : (W.setCell ⟨w2.heap.size, d, Option.none⟩ (.int .u8 ((bb ^^^ o : Nat) : Int))).cell? ⟨w.heap.size, 1, Option.none⟩ = some (.int .i64 (i : Int)) := by rw [World.cell?_setCell_other _ _ _ _ (by intro h; injection h; omega)]; exact x1
      have B0 : Hid (Below w.heap.size w (W.setCell ⟨w2.heap.size, d, Option.none⟩ (.int .u8 ((bb ^^^ o : Nat) : Int)))) := Lib.hid (B3.out.setCell (by show w.heap.size ≤ w2.heap.size; omega) _)
      go_wp2_with fail
      generalize (W.setCell ⟨w2.heap.size, d, Option.none⟩ (.int .u8 ((bb ^^^ o : Nat) : Int))) = W4 at *
      clear x0 x1 hcl hfz hx HR
      have x0 := u0; have x1 := u1; clear u0 u1
      have hcv0 := back HR0.out.drew cap
      generalize hT : strOfNums (((q.data.toList.map UInt8.toNat).set d (bb ^^^ o)).map Int.ofNat) = T at *
      go_region_held3 (fun w' => w'.cell? ⟨w.heap.size, 0, Option.none⟩ = some (.int .i64 (k : Int)) ∧ w'.cell? ⟨w.heap.size, 1, Option.none⟩ = some (.int .i64 (i : Int)) ∧ (convert 31 9 (.slice (some ⟨w2.heap.size, 0, Option.none⟩) 7 cap)).run Try.prog w' = .ok (.string T) w') (first | (refine ⟨?_, ?_, ?_⟩ <;> first | assumption | go_keep) | go_keep)
        (first | (go_at_call 44; refine (Wire.awake_calls _).mono ?_; rintro e mw0 ⟨rfl, mb0⟩; have mc0_0 := Kit.cell_below mb0 x0; have mc0_1 := Kit.cell_below mb0 x1; have mB0 := Lib.hid (B0.out.drew.trans (mb0.mono B0.out.drew.size)); have HR1 := Lib.hid (HR0.out.drew.below mb0); have hcv1 := back HR1.out cap; rw [hT] at hcv1; clear hcv0; clear mb0) | (go_at_call 49; refine (c2 _).mono ?_; rintro e mw1 ⟨rfl, mb1⟩; have mc1_0 := Kit.cell_below mb1 mc0_0; have mc1_1 := Kit.cell_below mb1 mc0_1; have mB1 := Lib.hid (Kit.chain mB0.out mb1); have HR2 := Lib.hid (HR1.out.below mb1); have hcv2 := back HR2.out cap; rw [hT] at hcv2; clear hcv1 c2; clear mb1) | (go_at_call 49; refine (c3 _).mono ?_; rintro e mw2 ⟨rfl, mb2⟩; have mc2_0 := Kit.cell_below mb2 mc1_0; have mc2_1 := Kit.cell_below mb2 mc1_1; have mB2 := Lib.hid (Kit.chain mB1.out mb2); have HR3 := Lib.hid (HR2.out.below mb2); have hcv3 := back HR3.out cap; rw [hT] at hcv3; clear hcv2 c3; clear mb2))
      go_wp2_with fail
      go_ret
      exact ⟨rfl, mB2.out⟩

theorem walk (v : Value) (a1 : Int) (w0 : Op.IsFrame v) (w1 : (Lit.int .u8 a1).wf = true) (w : World) :
    Calls Try.prog 10 #[v, .int .u8 a1] w fun e w' => e = .returned (.bool true) ∧ Below w.heap.size w w' := by
  obtain ⟨z, rfl, _⟩ := w0
  have b1 := bounds_u8 w1
  obtain ⟨b, rfl⟩ := Int.eq_ofNat_of_zero_le b1.1
  cases hf : z.right with
  | false => exact wrong z.k z.i b hf w
  | true =>
    obtain ⟨k, i, hk, hi, rfl⟩ := Fr.right_nat hf
    exact good k i b hk hi (by omega) w
end Go.Proofs.Ytpbkoooljelhjaa.WireBack
