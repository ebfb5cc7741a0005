/-
  CrcTells holds: the sum of any bytes (300 at most), the register behind any one, and any number's four bytes, and the number of four bytes, are the document's. No condition beyond the statement's own.
-/
import Derived.Test.YtpbkoooljelhjaaRows
import Derived.Test.YtpbkoooljelhjaaCrcTellsF
import Derived.Test.YtpbkoooljelhjaaCrc2
import Derived.ProofKit
import Derived.OpenShut
import Derived.ShutString
namespace Go.Proofs.Ytpbkoooljelhjaa.CrcTells
open Go.ChangeShapes Go.WideShapes Go.ChangeAt Go.RowKit
open Go.ChangeMaps (open_string shut_string)
set_option linter.unusedVariables false


set_option maxHeartbeats 1000000 in
set_option maxRecDepth 100000 in
theorem walkN (s : ByteArray) (r b : Nat) (hs : s.size ≤ maxLen) (hr : r < 4294967296) (hb : b < 256) (w : World) :
    Calls Try.prog 3 #[.string s, .int .u32 r, .int .u8 b] w fun e w' => e = .returned (.bool true) ∧ Below w.heap.size w w' := by
  unfold maxLen at hs
  by_cases h300 : s.size ≤ 300
  · have h3 : ((s.size : Int) > 300) = False := by simp; omega
    have H3 := Lib.hid h3
    clear h3
    by_cases h4 : s.size = 4
    · have c1 := fun w => Crc.value_calls s w h4
      have c2 := fun w => Crc.rvalue_calls s w h4
      have c3 := fun w => Crc.sum_calls s w (by omega)
      have c4 := fun w => Crc.rsum_calls s w (by omega)
      clear h4
      generalize Crc.val s.data.toList = v at *
      generalize Crc.sum s.data.toList = q at *
      go_enter Try.func3, Try.ntmps3
      go_wp2_with fail
      refine (c1 _).mono ?_
      rintro e w1 ⟨rfl, h1⟩
      go_wp2_with fail
      refine (c2 _).mono ?_
      rintro e w2 ⟨rfl, rfl⟩
      go_wp2_with fail
      refine (Crc.awake_calls _).mono ?_
      rintro e w3 ⟨rfl, h3⟩
      go_wp2_with fail
      refine (c3 _).mono ?_
      rintro e w4 ⟨rfl, h4⟩
      go_wp2_with fail
      refine (c4 _).mono ?_
      rintro e w5 ⟨rfl, rfl⟩
      go_wp2_with fail
      refine (Crc.add_calls r b _ hr hb).mono ?_
      rintro e w5 ⟨rfl, rfl⟩
      go_wp2_with fail
      refine (Crc.radd_calls r b _ hr hb).mono ?_
      rintro e w5 ⟨rfl, rfl⟩
      go_wp2_with fail
      refine (Crc.four_calls r _ hr).mono ?_
      rintro e w5 ⟨rfl, h5⟩
      go_wp2_with fail
      refine (Crc.rfour_calls r _ hr).mono ?_
      rintro e w6 ⟨rfl, h6⟩
      go_wp2_with fail
      go_ret
      exact ⟨rfl, Kit.chain h1 (Kit.chain h3 (Kit.chain h4 (Kit.chain h5 h6)))⟩
    · have c1 := fun w => Crc.value_no s w h4
      have c2 := fun w => Crc.rvalue_no s w h4
      have c3 := fun w => Crc.sum_calls s w (by omega)
      have c4 := fun w => Crc.rsum_calls s w (by omega)
      clear h4
      generalize Crc.sum s.data.toList = q at *
      go_enter Try.func3, Try.ntmps3
      go_wp2_with fail
      refine (c1 _).mono ?_
      rintro e w1 ⟨rfl, h1⟩
      go_wp2_with fail
      refine (c2 _).mono ?_
      rintro e w2 ⟨rfl, rfl⟩
      go_wp2_with fail
      refine (Crc.awake_calls _).mono ?_
      rintro e w3 ⟨rfl, h3⟩
      go_wp2_with fail
      refine (c3 _).mono ?_
      rintro e w4 ⟨rfl, h4⟩
      go_wp2_with fail
      refine (c4 _).mono ?_
      rintro e w5 ⟨rfl, rfl⟩
      go_wp2_with fail
      refine (Crc.add_calls r b _ hr hb).mono ?_
      rintro e w5 ⟨rfl, rfl⟩
      go_wp2_with fail
      refine (Crc.radd_calls r b _ hr hb).mono ?_
      rintro e w5 ⟨rfl, rfl⟩
      go_wp2_with fail
      refine (Crc.four_calls r _ hr).mono ?_
      rintro e w5 ⟨rfl, h5⟩
      go_wp2_with fail
      refine (Crc.rfour_calls r _ hr).mono ?_
      rintro e w6 ⟨rfl, h6⟩
      go_wp2_with fail
      go_ret
      exact ⟨rfl, Kit.chain h1 (Kit.chain h3 (Kit.chain h4 (Kit.chain h5 h6)))⟩
  · have h3 : 300 < s.size := by omega
    go_enter Try.func3, Try.ntmps3
    go_wp2_with fail
    refine (Crc.awake_calls _).mono ?_
    rintro e w3 ⟨rfl, h3⟩
    go_wp2_with fail
    go_ret
    exact ⟨rfl, h3⟩

theorem walk (a0 : ByteArray) (a1 : Int) (a2 : Int) (w0 : a0.size ≤ maxLen) (w1 : (Lit.int .u32 a1).wf = true) (w2 : (Lit.int .u8 a2).wf = true) (w : World) :
    Calls Try.prog 3 #[.string a0, .int .u32 a1, .int .u8 a2] w fun e w' => e = .returned (.bool true) ∧ Below w.heap.size w w' := by
  have b1 := bounds_u32 w1
  have b2 := bounds_u8 w2
  obtain ⟨r, rfl⟩ := Int.eq_ofNat_of_zero_le b1.1
  obtain ⟨b, rfl⟩ := Int.eq_ofNat_of_zero_le b2.1
  exact walkN a0 r b w0 (by omega) (by omega) w

set_option maxRecDepth 100000 in
theorem lifted (os : Os) (started : os.Started) (H : Type) (enc : TypeId × Value → H) :
    ReturnsInHanded {} Try.checked os 3 .any (Rows.crcTellsSpec.pre6 enc Try.prog Try.f3 Rows.crcTellsRow.domain false) (Rows.crcTellsSpec.post enc Try.prog Try.f3 false true false false) := by
  refine returnsInHanded_of_change (C := Try.checked) own started (by kernel_rfl) Try.func3
    (ChangeSpec.witness6 (enc := enc) (C := Try.checked) false ⟨#[], #[.string ByteArray.empty, .int .u32 0, .int .u8 0], []⟩ 8 (by kernel_rfl) (by kernel_rfl) (by kernel_rfl) (by kernel_rfl)) ?_
  intro W base args ds gs before hval0 hW hcnd _
  have hval : ∀ (j : Nat) t v, Try.f3.params[j]? = some t → args[j]? = some v → Value.okWide Try.prog W .any base t v := hval0
  have hW' := hW
  obtain ⟨p, q, hA0, hV, rfl, hfz, hnd⟩ := hW
  have hA : DataW.TrodAll enc Try.prog W 0 (fun _ => true) true Try.f3.params.toList args.toList ds p := hA0
  rw [Try.params3] at hA hval
  obtain ⟨v0, vs0, d0, ds0, p0, q0, hargs, rfl, rfl, h0, r0⟩ := trodAll_cons hA
  obtain ⟨v1, vs1, d1, ds1, p1, q1, rfl, rfl, rfl, h1, r1⟩ := trodAll_cons r0
  obtain ⟨v2, vs2, d2, ds2, p2, q2, rfl, rfl, rfl, h2, r2⟩ := trodAll_cons r1
  obtain ⟨rfl, rfl, rfl⟩ := trodAll_nil r2
  obtain rfl : args = #[v0, v1, v2] := by cases args; simp_all
  obtain ⟨rfl, rfl⟩ := trodVars_none hV
  obtain ⟨a0, rfl, rfl, rfl, w0⟩ := open_string Try.underlying9 (hval 0 9 v0 rfl rfl) h0
  obtain ⟨a1, rfl, rfl, rfl, w1⟩ := open_int Try.underlying22 (hval 1 22 v1 rfl rfl) h1
  obtain ⟨a2, rfl, rfl, rfl, w2⟩ := open_int Try.underlying5 (hval 2 5 v2 rfl rfl) h2
  clear hA0 hval0
  simp only [List.append_nil] at hW'
  refine (walk a0 a1 a2 w0 w1 w2 W).mono fun e W' ⟨he, bel⟩ => ?_
  subst he
  exact ⟨_, rfl, _, _, _, [], _, [], hW', trodAll_mk1 (shut_bool Try.underlying4 _), (trodAll_cons_mk (shut_string Try.underlying9 w0) (trodAll_cons_mk (shut_int Try.underlying22 w1) (trodAll_cons_mk (shut_int Try.underlying5 w2) trodAll_mk0))), rfl, bel.frame _, fun h => by cases h⟩

theorem over : Rows.crcTellsRow.holds Try.pinned (OpenSpec.ofChange Rows.crcTellsSpec) :=
  OpenClaim.holds_of_wide 3 Try.f3 rfl rfl rfl rfl rfl rfl rfl ⟨rfl, rfl, rfl, rfl, rfl⟩ rfl rfl rfl rfl rfl named Try.func3 facts
    (of_decide_eq_true (by kernel_rfl)) (by unfold Func.isWrapper; first | (rw [if_pos (by decide +kernel)]; kernel_rfl) | (rw [if_neg (by decide +kernel)]; exact ⟨rfl, rfl⟩))
    (fun os started H enc _ => lifted os started H enc)

theorem proved : Rows.CrcTellsSaid := over
#print axioms proved
end Go.Proofs.Ytpbkoooljelhjaa.CrcTells
