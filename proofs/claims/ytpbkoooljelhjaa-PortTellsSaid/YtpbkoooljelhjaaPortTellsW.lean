/-
  PortTells: the walk of the statement's own function.
-/
import Derived.Test.YtpbkoooljelhjaaPort7
import Derived.Test.YtpbkoooljelhjaaOp3
namespace Go.Proofs.Ytpbkoooljelhjaa.PortTells
set_option linter.unusedVariables false
set_option linter.unusedSimpArgs false
open Go.RowKit

set_option maxHeartbeats 2000000 in
set_option maxRecDepth 100000 in
theorem walk1 (x : Int) (A1 A2 A3 : Option Addr) (n1 c1 n2 c2 n3 c3 : Nat) (l : List ByteArray) (a b : List Fr) (w : World) (hl : Strs w A1 n1 l) (hs : ∀ s ∈ l, s.size ≤ maxLen) (ha : Frames w A2 n2 a) (hb : Frames w A3 n3 b)
    (h1 : n1 ≤ 9223372036854775807) (h2 : n2 ≤ 9223372036854775807) (h3 : n3 ≤ 9223372036854775807) (hcap : A2 = none → c2 = 0) :
    Calls Try.prog 18 #[.agg #[.int .i64 x, .slice A1 n1 c1, .slice A2 n2 c2, .slice A3 n3 c3]] w fun e w' => e = .returned (.bool true) ∧ Below w.heap.size w w' := by
  have HL := Lib.hid hl
  have HS := Lib.hid hs
  have HA := Lib.hid ha
  have HB := Lib.hid hb
  clear hl hs ha hb
  go_enter Try.func18, Try.ntmps18
  go_wp2_with fail
  go_quiet (fail)
  go_wp2_with fail
  have B0 : ∀ k, Below w.heap.size w ((w.alloc (.cells #[.int .i64 x, .slice A1 n1 c1, .slice A2 n2 c2, .slice A3 n3 c3] 85)).drewN k) := fun k => ((Below.refl _ _).alloc (Nat.le_refl _) _).trans ((Kit.below_drewN _ _).mono (by simp))
  refine (Port.short_calls A1 n1 c1 l _ (HL.out.below (B0 _)) h1).mono ?_
  rintro e w1 ⟨bs, rfl, hbs, b1⟩
  have B1 := Lib.hid (Kit.chain (B0 _) b1)
  clear b1 B0
  cases bs with
  | false =>
    clear hbs
    go_wp2_with fail
    refine (Port.awake_calls _).mono ?_
    rintro e w2 ⟨rfl, b2⟩
    go_wp2_with fail
    go_ret
    exact ⟨rfl, Kit.chain B1.out b2⟩
  | true =>
    have hn1 := hbs rfl
    clear hbs
    by_cases h20 : n2 ≤ 20 ∧ n3 ≤ 20
    · obtain ⟨h22, h23⟩ := h20
      have g2 : decide ((20 : Int) < (n2 : Int)) = false := by simp; omega
      have g3 : decide ((20 : Int) < (n3 : Int)) = false := by simp; omega
      have k1 := Port.take_calls x A1 n1 c1 l w1 (HL.out.below B1.out) HS.out h1
      go_wp2_with fail
      refine k1.mono ?_
      clear k1
      rintro e w2 ⟨v2, rfl, hown2, b2⟩
      obtain ⟨Ax, cx, rfl, hfx⟩ := Port.of_own hown2
      have B2 := Lib.hid (Kit.chain B1.out b2)
      have k2 := Port.rtake_calls x A1 n1 c1 l w2 (HL.out.below B2.out) HS.out h1
      clear b2 hown2
      have HX2 := Lib.hid hfx
      clear hfx
      go_wp2_with fail
      refine k2.mono ?_
      clear k2
      rintro e w3 ⟨v3, rfl, hown3, b3⟩
      obtain ⟨Ay, cy, rfl, hfy⟩ := Port.of_own hown3
      have B3 := Lib.hid (Kit.chain B2.out b3)
      have HX3 := Lib.hid (HX2.out.below b3)
      have HY3 := Lib.hid hfy
      have k3 := Port.both_calls A2 A3 n2 c2 n3 c3 a b w3 (HA.out.below B3.out) (HB.out.below B3.out) (by omega) (by omega)
      clear b3 hown3 hfy HX2
      have htl : (Port.takeV x l).1.length ≤ n1 := by
        unfold Port.takeV
        split
        · split
          · rw [Port.take_len, HL.out.len]; exact Nat.le_refl _
          · exact Nat.zero_le _
        · exact Nat.zero_le _
      have HTL := Lib.hid htl
      clear htl
      generalize hT : Port.takeV x l = T at *
      clear hT
      obtain ⟨tl, te⟩ := T
      go_wp2_with fail
      refine k3.mono ?_
      clear k3
      rintro e w4 ⟨v4, rfl, hown4, b4⟩
      have hbl : (if n2 = n3 then Port.both a b else []).length ≤ n3 := by
        split
        · rw [Port.both_len a b (by rw [HA.out.len, HB.out.len]; assumption), HB.out.len]; exact Nat.le_refl _
        · exact Nat.zero_le _
      have B4 := Lib.hid (Kit.chain B3.out b4)
      have k4 := Port.rboth_calls A2 A3 n2 c2 n3 c3 a b w4 (HA.out.below B4.out) (HB.out.below B4.out) (by omega) (by omega) hcap
      generalize (if n2 = n3 then Port.both a b else []) = bl at *
      generalize (if n2 = n3 then (0 : Int) else 2) = be at *
      obtain ⟨Ac, cc, rfl, hfc⟩ := Port.of_own hown4
      have HX4 := Lib.hid (HX3.out.below b4)
      have HY4 := Lib.hid (HY3.out.below b4)
      have HC4 := Lib.hid hfc
      clear b4 hown4 hfc HX3 HY3
      go_wp2_with fail
      refine k4.mono ?_
      clear k4
      rintro e w5 ⟨v5, rfl, hown5, b5⟩
      obtain ⟨Ad, cd, rfl, hfd⟩ := Port.of_own hown5
      have B5 := Lib.hid (Kit.chain B4.out b5)
      have HX5 := Lib.hid (HX4.out.below b5)
      have HY5 := Lib.hid (HY4.out.below b5)
      have HC5 := Lib.hid (HC4.out.below b5)
      have HD5 := Lib.hid hfd
      clear b5 hown5 hfd HX4 HY4 HC4
      go_wp2_with fail
      refine (Port.awake_calls _).mono ?_
      rintro e w6 ⟨rfl, b6⟩
      have B6 := Lib.hid (Kit.chain B5.out b6)
      have k5 := Port.rsame_calls Ax Ay tl.length cx tl.length cy tl tl w6 (HX5.out.below b6) (HY5.out.below b6) (Nat.le_trans HTL.out (by omega)) (Nat.le_trans HTL.out (by omega))
      rw [decide_eq_true rfl] at k5
      have HC6 := Lib.hid (HC5.out.below b6)
      have HD6 := Lib.hid (HD5.out.below b6)
      clear b6 HX5 HY5 HC5 HD5
      go_wp2_with fail
      refine k5.mono ?_
      clear k5
      rintro e w7 ⟨rfl, b7⟩
      have B7 := Lib.hid (Kit.chain B6.out b7)
      have k6 := Port.rsame_calls Ac Ad bl.length cc bl.length cd bl bl w7 (HC6.out.below b7) (HD6.out.below b7) (by omega) (by omega)
      rw [decide_eq_true rfl] at k6
      clear b7 HC6 HD6
      go_wp2_with fail
      refine k6.mono ?_
      clear k6
      rintro e w8 ⟨rfl, b8⟩
      have B8 := Lib.hid (Kit.chain B7.out b8)
      have k7 := Port.same_calls A2 A3 n2 c2 n3 c3 a b w8 (HA.out.below B8.out) (HB.out.below B8.out) h2 h3
      clear b8
      generalize hab : decide (a = b) = ab at *
      have HAB := Lib.hid hab
      clear hab
      go_wp2_with fail
      refine k7.mono ?_
      clear k7
      rintro e w9 ⟨rfl, b9⟩
      have B9 := Lib.hid (Kit.chain B8.out b9)
      have k8 := Port.rsame_calls A2 A3 n2 c2 n3 c3 a b w9 (HA.out.below B9.out) (HB.out.below B9.out) h2 h3
      rw [HAB.out] at k8
      clear b9
      go_wp2_with fail
      refine k8.mono ?_
      clear k8
      rintro e w10 ⟨rfl, b10⟩
      go_wp2_with fail
      go_ret
      exact ⟨rfl, Kit.chain B9.out b10⟩
    · by_cases h22 : n2 ≤ 20
      · have g2 : decide ((20 : Int) < (n2 : Int)) = false := by simp; omega
        have g3 : decide ((20 : Int) < (n3 : Int)) = true := by simp; omega
        go_wp2_with fail
        refine (Port.awake_calls _).mono ?_
        rintro e w2 ⟨rfl, b2⟩
        go_wp2_with fail
        go_ret
        exact ⟨rfl, Kit.chain B1.out b2⟩
      · have g2 : decide ((20 : Int) < (n2 : Int)) = true := by simp; omega
        go_wp2_with fail
        refine (Port.awake_calls _).mono ?_
        rintro e w2 ⟨rfl, b2⟩
        go_wp2_with fail
        go_ret
        exact ⟨rfl, Kit.chain B1.out b2⟩

theorem walk (v : Value) {w : World} (w0 : Op.IsPAsk w v) (w' : World) (hw : w' = w := by rfl) :
    Calls Try.prog 18 #[v] w fun e w' => e = .returned (.bool true) ∧ Below w.heap.size w w' := by
  obtain ⟨x, _, _, _, rfl, ⟨A1, n1, c1, l, rfl, h1, hl, hs⟩, ⟨A2, n2, c2, a, rfl, h2, ha, hcap, _⟩, ⟨A3, n3, c3, b, rfl, h3, hb, _, _⟩⟩ := w0
  unfold maxLen at h1 h2 h3
  exact walk1 x A1 A2 A3 n1 c1 n2 c2 n3 c3 l a b w hl hs ha hb (by omega) (by omega) (by omega) hcap
end Go.Proofs.Ytpbkoooljelhjaa.PortTells
