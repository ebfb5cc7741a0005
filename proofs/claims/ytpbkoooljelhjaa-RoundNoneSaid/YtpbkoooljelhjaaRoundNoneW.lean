/-
  RoundNone: the walk of the statement's own function.
-/
import Derived.Test.YtpbkoooljelhjaaRound9
import Derived.Test.YtpbkoooljelhjaaOp4
import Derived.BigRegion
import Derived.BigCall
import Derived.BigGuardPart
namespace Go.Proofs.Ytpbkoooljelhjaa.RoundNone
set_option linter.unusedVariables false
set_option linter.unusedSimpArgs false
open Go.RowKit

theorem cast0 : ((0 : Nat) : Int) = 0 := rfl
theorem past (c v : Int) (l : List Lk) : Rd.wrong c v (l.length : Int) l = none := Rd.wrong_miss fun _ j hj => by unfold Rd.wrongAt; rw [decide_eq_false (by omega)]; rfl
theorem unpast {n c v : Int} {l : List Lk} {o : Option Nat} (h : Rd.IsHeard n c v (l.length : Int) l o) : o = none := by
  by_cases hb : (l.length : Int) < 0 ∨ n < 1 ∨ 8 < n
  · exact h.none_ hb
  · cases o with
    | none => rfl
    | some id =>
      obtain ⟨_, ⟨_, i, h1, h2, _⟩, _⟩ := (h.some_ id hb).1 rfl
      omega
theorem later {c v f g : Int} {l : List Lk} {b : Nat} (hf : 0 ≤ f) (hfg : f ≤ g) (h : Rd.wrong c v g l = some b) : ∃ a, Rd.wrong c v f l = some a ∧ a ≤ b := by
  obtain ⟨_, h1, _, h2, _⟩ := Rd.wrong_some h
  have h3 := Rd.wrongAt_later hfg h2
  cases hw : Rd.wrong c v f l with
  | none => exact absurd (Rd.wrong_none hw hf b h1) (by rw [h3]; simp)
  | some a =>
    refine ⟨a, rfl, ?_⟩
    obtain ⟨_, _, _, _, h4⟩ := Rd.wrong_some hw
    rcases Nat.lt_or_ge b a with h5 | h5
    · rw [h4 b h5] at h3; cases h3
    · exact h5
theorem heardOne {n c v f : Int} {l : List Lk} {id : Nat} (h : Rd.IsHeard n c v f l (some id)) : (id : Int) < n ∧ Vw.fnode c v id = false := by
  by_cases hb : f < 0 ∨ n < 1 ∨ 8 < n
  · have := h.none_ hb; cases this
  · obtain ⟨h1, ⟨h2, _⟩, _⟩ := (h.some_ id hb).1 rfl
    exact ⟨by omega, h2⟩

set_option maxHeartbeats 16000000 in
set_option maxRecDepth 100000 in
theorem walk1 (n f c v : Int) (A A2 : Option Addr) (len cap n2 cap2 : Nat) (l : List Lk) (ah : List Nd) (w : World) (hl : Looks w A len l) (hah : Nodes w A2 n2 ah) (hlen : len ≤ 9223372036854775807) (hn2 : n2 ≤ 9223372036854775807) (hcap : len ≤ cap) (hnil : A = none → cap = 0) (mo : Int) (hmo : 0 ≤ mo ∧ mo ≤ 255) (hf1 : -9223372036854775808 ≤ f) (hf2 : f ≤ 9223372036854775807) :
    Calls Try.prog 22 #[.agg #[.int .i64 n, .int .i64 f, .int .i64 c, .int .i64 v, .slice A2 n2 cap2, .slice A len cap], .int .u8 mo] w fun e w' => e = .returned (.bool true) ∧ Below w.heap.size w w' := by
  have HL := Lib.hid hl
  have HNIL := Lib.hid hnil
  clear hl hah hnil
  obtain ⟨hmo0, hmo1⟩ := hmo
  have z0 : (w.alloc (.cells #[.int .i64 n, .int .i64 f, .int .i64 c, .int .i64 v, .slice A2 n2 cap2, .slice A len cap] 98)).cell? ⟨w.heap.size, 0, none⟩ = some (.int .i64 n) := World.cell?_alloc_new ..
  have z1 : (w.alloc (.cells #[.int .i64 n, .int .i64 f, .int .i64 c, .int .i64 v, .slice A2 n2 cap2, .slice A len cap] 98)).cell? ⟨w.heap.size, 1, none⟩ = some (.int .i64 f) := World.cell?_alloc_new ..
  have z2 : (w.alloc (.cells #[.int .i64 n, .int .i64 f, .int .i64 c, .int .i64 v, .slice A2 n2 cap2, .slice A len cap] 98)).cell? ⟨w.heap.size, 2, none⟩ = some (.int .i64 c) := World.cell?_alloc_new ..
  have z3 : (w.alloc (.cells #[.int .i64 n, .int .i64 f, .int .i64 c, .int .i64 v, .slice A2 n2 cap2, .slice A len cap] 98)).cell? ⟨w.heap.size, 3, none⟩ = some (.int .i64 v) := World.cell?_alloc_new ..
  have z4 : (w.alloc (.cells #[.int .i64 n, .int .i64 f, .int .i64 c, .int .i64 v, .slice A2 n2 cap2, .slice A len cap] 98)).cell? ⟨w.heap.size, 4, none⟩ = some (.slice A2 n2 cap2) := World.cell?_alloc_new ..
  have z5 : (w.alloc (.cells #[.int .i64 n, .int .i64 f, .int .i64 c, .int .i64 v, .slice A2 n2 cap2, .slice A len cap] 98)).cell? ⟨w.heap.size, 5, none⟩ = some (.slice A len cap) := World.cell?_alloc_new ..
  go_enter Try.func22, Try.ntmps22
  simp only [List.append_eq, List.cons_append, List.nil_append]
  go_wp2_with fail
  refine (Rd.may_calls A len cap l _ (HL.out.below (Kit.alloc1 ..)) hlen).mono ?_
  rintro e w1 ⟨bb, rfl, hbb, rfl⟩
  cases bb with
  | false =>
    clear hbb
    go_wp2_with fail
    refine (Rd.awake_calls _).mono ?_
    rintro e wA ⟨rfl, bA⟩
    go_wp2_with fail
    go_ret
    exact ⟨rfl, Kit.chain (Kit.alloc1 ..) bA⟩
  | true =>
    obtain ⟨h60, hxn⟩ := hbb rfl
    have HLL := Lib.hid HL.out.len
    have hl60 : len ≤ 60 := by have h2 := HLL.out; omega
    have HXN := Lib.hid hxn
    clear hbb h60 hxn
    by_cases hf0 : f < 0
    · have hf100 : f ≤ 100 := by omega
      have hf00 : f ≤ 0 := by omega
      have k1 := fun W (hW : Below w.heap.size w W) => Rd.wrong_calls c v len A len cap l W (HL.out.below hW) (by omega) (fun x hx => Nat.le_trans (HXN.out x hx) (by omega)) (by omega) (by omega)
      have k2 := fun W (hW : Below w.heap.size w W) => Rd.heard_calls n c v len A len cap l W (HL.out.below hW) (by omega) hcap HNIL.out (by omega) (by omega)
      have k3 := fun W (hW : Below w.heap.size w W) => Rd.wrong_calls c v 0 A len cap l W (HL.out.below hW) (by omega) (fun x hx => Nat.le_trans (HXN.out x hx) (by omega)) (by omega) (by omega)
      have k4 := fun W (hW : Below w.heap.size w W) => Rd.wrong_calls c v mo A len cap l W (HL.out.below hW) (by omega) (fun x hx => Nat.le_trans (HXN.out x hx) (by omega)) (by omega) (by omega)
      have k5 := fun W (hW : Below w.heap.size w W) => Rd.heard_calls n c v 0 A len cap l W (HL.out.below hW) (by omega) hcap HNIL.out (by omega) (by omega)
      have hp1 : Rd.wrong c v len l = none := by have := past c v l; rw [HLL.out] at this; exact this
      rw [hp1] at k1
      have hlat : ∀ b, Rd.wrong c v mo l = some b → ∃ a, Rd.wrong c v 0 l = some a ∧ a ≤ b := fun b hb => later (by omega) (by omega) hb
      have hsm : ∀ a, Rd.wrong c v 0 l = some a → 0 < (a : Int) ∧ a < len := fun a ha => by
        obtain ⟨_, h1, h2, _⟩ := Rd.wrong_some ha
        rw [HLL.out] at h1
        exact ⟨h2, h1⟩
      generalize Rd.wrong c v 0 l = o1 at *
      generalize Rd.wrong c v mo l = o2 at *
      simp only [Sy.firstV, Option.getD_none, Option.isSome_none, cast0] at k1 k3 k4
      have K1 := Lib.hid k1
      have K2 := Lib.hid k2
      have K3 := Lib.hid k3
      have K4 := Lib.hid k4
      have K5 := Lib.hid k5
      have HLAT := Lib.hid hlat
      have HSM := Lib.hid hsm
      clear k1 k2 k3 k4 k5 hp1 hlat hsm
      go_wp2_with fail
      refine (K1.out _ (Kit.alloc1 ..)).mono ?_
      rintro e u1 ⟨rfl, b1⟩
      replace z0 := Kit.cell_below b1 z0
      replace z1 := Kit.cell_below b1 z1
      replace z2 := Kit.cell_below b1 z2
      replace z3 := Kit.cell_below b1 z3
      replace z4 := Kit.cell_below b1 z4
      replace z5 := Kit.cell_below b1 z5
      have B1 := Lib.hid (Kit.chain (Kit.alloc1 ..) b1)
      clear b1
      go_wp2_with fail
      refine (K2.out _ B1.out).mono ?_
      rintro e u2 ⟨p2, hp2, rfl, b2⟩
      replace z0 := Kit.cell_below b2 z0
      replace z1 := Kit.cell_below b2 z1
      replace z2 := Kit.cell_below b2 z2
      replace z3 := Kit.cell_below b2 z3
      replace z4 := Kit.cell_below b2 z4
      replace z5 := Kit.cell_below b2 z5
      have B2 := Lib.hid (Kit.chain B1.out b2)
      obtain rfl : p2 = none := unpast (by rw [HLL.out]; exact hp2)
      simp only [Sy.firstV, Option.getD_none, Option.isSome_none, cast0]
      clear hp2
      clear b2
      go_wp2_with fail
      refine (K3.out _ B2.out).mono ?_
      rintro e u3 ⟨rfl, b3⟩
      replace z0 := Kit.cell_below b3 z0
      replace z1 := Kit.cell_below b3 z1
      replace z2 := Kit.cell_below b3 z2
      replace z3 := Kit.cell_below b3 z3
      replace z4 := Kit.cell_below b3 z4
      replace z5 := Kit.cell_below b3 z5
      have B3 := Lib.hid (Kit.chain B2.out b3)
      clear b3
      go_wp2_with fail
      refine (K4.out _ B3.out).mono ?_
      rintro e u4 ⟨rfl, b4⟩
      replace z0 := Kit.cell_below b4 z0
      replace z1 := Kit.cell_below b4 z1
      replace z2 := Kit.cell_below b4 z2
      replace z3 := Kit.cell_below b4 z3
      replace z4 := Kit.cell_below b4 z4
      replace z5 := Kit.cell_below b4 z5
      have B4 := Lib.hid (Kit.chain B3.out b4)
      clear b4
      go_wp2_with fail
      refine (K5.out _ B4.out).mono ?_
      rintro e u5 ⟨p5, hp5, rfl, b5⟩
      replace z0 := Kit.cell_below b5 z0
      replace z1 := Kit.cell_below b5 z1
      replace z2 := Kit.cell_below b5 z2
      replace z3 := Kit.cell_below b5 z3
      replace z4 := Kit.cell_below b5 z4
      replace z5 := Kit.cell_below b5 z5
      have B5 := Lib.hid (Kit.chain B4.out b5)
      have HP5 := Lib.hid hp5
      clear hp5
      simp only [Sy.firstV]
      clear b5
      go_wp2_with fail
      cases o2 with
      | none =>
        simp only [Option.getD_none, Option.isSome_none, cast0]
        cases o1 with
        | none =>
          simp only [Option.getD_none, Option.isSome_none, cast0]
          cases p5 with
          | none =>
            simp only [Option.getD_none, Option.isSome_none, cast0]
            go_wp2_with fail
            refine (Rd.awake_calls _).mono ?_
            rintro e wA ⟨rfl, bA⟩
            replace z0 := Kit.cell_below bA z0
            replace z1 := Kit.cell_below bA z1
            replace z2 := Kit.cell_below bA z2
            replace z3 := Kit.cell_below bA z3
            replace z4 := Kit.cell_below bA z4
            replace z5 := Kit.cell_below bA z5
            have B6 := Lib.hid (Kit.chain B5.out bA)
            clear bA
            have nf : (!false) = true := rfl
            have nt : (!true) = false := rfl
            go_wp2_with fail
            go_ret
            exact ⟨by simp, B6.out⟩
          | some id =>
            obtain ⟨h1, h2⟩ := heardOne HP5.out
            have w1 : decide ((id : Int) < n) = true := decide_eq_true h1
            simp only [Option.getD_some, Option.isSome_some]
            cases e1 : c == 1 with
            | false =>
              have w2 : (c != 1) = true := by rw [bne_iff_ne]; exact beq_eq_false_iff_ne.1 e1
              clear h1 h2 e1
              go_wp2_with fail
              refine (Rd.awake_calls _).mono ?_
              rintro e wA ⟨rfl, bA⟩
              replace z0 := Kit.cell_below bA z0
              replace z1 := Kit.cell_below bA z1
              replace z2 := Kit.cell_below bA z2
              replace z3 := Kit.cell_below bA z3
              replace z4 := Kit.cell_below bA z4
              replace z5 := Kit.cell_below bA z5
              have B6 := Lib.hid (Kit.chain B5.out bA)
              clear bA
              have nf : (!false) = true := rfl
              have nt : (!true) = false := rfl
              go_wp2_with fail
              go_ret
              exact ⟨by simp, B6.out⟩
            | true =>
              have w2 : (c != 1) = false := by rw [bne_eq_false_iff_eq]; exact eq_of_beq e1
              have w3 : (v != (id : Int)) = true := by
                rw [bne_iff_ne]
                intro h
                unfold Vw.fnode at h2
                rw [e1, h] at h2
                simp at h2
              clear h1 h2 e1
              go_wp2_with fail
              refine (Rd.awake_calls _).mono ?_
              rintro e wA ⟨rfl, bA⟩
              replace z0 := Kit.cell_below bA z0
              replace z1 := Kit.cell_below bA z1
              replace z2 := Kit.cell_below bA z2
              replace z3 := Kit.cell_below bA z3
              replace z4 := Kit.cell_below bA z4
              replace z5 := Kit.cell_below bA z5
              have B6 := Lib.hid (Kit.chain B5.out bA)
              clear bA
              have nf : (!false) = true := rfl
              have nt : (!true) = false := rfl
              go_wp2_with fail
              go_ret
              exact ⟨by simp, B6.out⟩
        | some a =>
          obtain ⟨h3, h4⟩ := HSM.out a rfl
          have y1 : decide (0 < (a : Int)) = true := decide_eq_true h3
          have y1n : 0 < a := by omega
          have y1d : decide (0 < a) = true := decide_eq_true y1n
          have y2d : decide (a < len) = true := decide_eq_true h4
          have y2 : decide ((a : Int) < (len : Int)) = true := by simp; omega
          simp only [Option.getD_some, Option.isSome_some]
          clear h3
          cases p5 with
          | none =>
            simp only [Option.getD_none, Option.isSome_none, cast0]
            go_wp2_with fail
            refine (Rd.awake_calls _).mono ?_
            rintro e wA ⟨rfl, bA⟩
            replace z0 := Kit.cell_below bA z0
            replace z1 := Kit.cell_below bA z1
            replace z2 := Kit.cell_below bA z2
            replace z3 := Kit.cell_below bA z3
            replace z4 := Kit.cell_below bA z4
            replace z5 := Kit.cell_below bA z5
            have B6 := Lib.hid (Kit.chain B5.out bA)
            clear bA
            have nf : (!false) = true := rfl
            have nt : (!true) = false := rfl
            go_wp2_with fail
            go_ret
            exact ⟨by simp, B6.out⟩
          | some id =>
            obtain ⟨h1, h2⟩ := heardOne HP5.out
            have w1 : decide ((id : Int) < n) = true := decide_eq_true h1
            simp only [Option.getD_some, Option.isSome_some]
            cases e1 : c == 1 with
            | false =>
              have w2 : (c != 1) = true := by rw [bne_iff_ne]; exact beq_eq_false_iff_ne.1 e1
              clear h1 h2 e1
              go_wp2_with fail
              refine (Rd.awake_calls _).mono ?_
              rintro e wA ⟨rfl, bA⟩
              replace z0 := Kit.cell_below bA z0
              replace z1 := Kit.cell_below bA z1
              replace z2 := Kit.cell_below bA z2
              replace z3 := Kit.cell_below bA z3
              replace z4 := Kit.cell_below bA z4
              replace z5 := Kit.cell_below bA z5
              have B6 := Lib.hid (Kit.chain B5.out bA)
              clear bA
              have nf : (!false) = true := rfl
              have nt : (!true) = false := rfl
              go_wp2_with fail
              go_ret
              exact ⟨by simp, B6.out⟩
            | true =>
              have w2 : (c != 1) = false := by rw [bne_eq_false_iff_eq]; exact eq_of_beq e1
              have w3 : (v != (id : Int)) = true := by
                rw [bne_iff_ne]
                intro h
                unfold Vw.fnode at h2
                rw [e1, h] at h2
                simp at h2
              clear h1 h2 e1
              go_wp2_with fail
              refine (Rd.awake_calls _).mono ?_
              rintro e wA ⟨rfl, bA⟩
              replace z0 := Kit.cell_below bA z0
              replace z1 := Kit.cell_below bA z1
              replace z2 := Kit.cell_below bA z2
              replace z3 := Kit.cell_below bA z3
              replace z4 := Kit.cell_below bA z4
              replace z5 := Kit.cell_below bA z5
              have B6 := Lib.hid (Kit.chain B5.out bA)
              clear bA
              have nf : (!false) = true := rfl
              have nt : (!true) = false := rfl
              go_wp2_with fail
              go_ret
              exact ⟨by simp, B6.out⟩
      | some b =>
        obtain ⟨a, rfl, hab⟩ := HLAT.out b rfl
        obtain ⟨h3, h4⟩ := HSM.out a rfl
        have y1 : decide (0 < (a : Int)) = true := decide_eq_true h3
        have y1n : 0 < a := by omega
        have y1d : decide (0 < a) = true := decide_eq_true y1n
        have y2d : decide (a < len) = true := decide_eq_true h4
        have y3d : decide (a ≤ b) = true := decide_eq_true hab
        have y2 : decide ((a : Int) < (len : Int)) = true := by simp; omega
        have y3 : decide ((a : Int) ≤ (b : Int)) = true := by simp; omega
        simp only [Option.getD_some, Option.isSome_some]
        clear h3
        cases p5 with
        | none =>
          simp only [Option.getD_none, Option.isSome_none, cast0]
          go_wp2_with fail
          refine (Rd.awake_calls _).mono ?_
          rintro e wA ⟨rfl, bA⟩
          replace z0 := Kit.cell_below bA z0
          replace z1 := Kit.cell_below bA z1
          replace z2 := Kit.cell_below bA z2
          replace z3 := Kit.cell_below bA z3
          replace z4 := Kit.cell_below bA z4
          replace z5 := Kit.cell_below bA z5
          have B6 := Lib.hid (Kit.chain B5.out bA)
          clear bA
          have nf : (!false) = true := rfl
          have nt : (!true) = false := rfl
          go_wp2_with fail
          go_ret
          exact ⟨by simp, B6.out⟩
        | some id =>
          obtain ⟨h1, h2⟩ := heardOne HP5.out
          have w1 : decide ((id : Int) < n) = true := decide_eq_true h1
          simp only [Option.getD_some, Option.isSome_some]
          cases e1 : c == 1 with
          | false =>
            have w2 : (c != 1) = true := by rw [bne_iff_ne]; exact beq_eq_false_iff_ne.1 e1
            clear h1 h2 e1
            go_wp2_with fail
            refine (Rd.awake_calls _).mono ?_
            rintro e wA ⟨rfl, bA⟩
            replace z0 := Kit.cell_below bA z0
            replace z1 := Kit.cell_below bA z1
            replace z2 := Kit.cell_below bA z2
            replace z3 := Kit.cell_below bA z3
            replace z4 := Kit.cell_below bA z4
            replace z5 := Kit.cell_below bA z5
            have B6 := Lib.hid (Kit.chain B5.out bA)
            clear bA
            have nf : (!false) = true := rfl
            have nt : (!true) = false := rfl
            go_wp2_with fail
            go_ret
            exact ⟨by simp, B6.out⟩
          | true =>
            have w2 : (c != 1) = false := by rw [bne_eq_false_iff_eq]; exact eq_of_beq e1
            have w3 : (v != (id : Int)) = true := by
              rw [bne_iff_ne]
              intro h
              unfold Vw.fnode at h2
              rw [e1, h] at h2
              simp at h2
            clear h1 h2 e1
            go_wp2_with fail
            refine (Rd.awake_calls _).mono ?_
            rintro e wA ⟨rfl, bA⟩
            replace z0 := Kit.cell_below bA z0
            replace z1 := Kit.cell_below bA z1
            replace z2 := Kit.cell_below bA z2
            replace z3 := Kit.cell_below bA z3
            replace z4 := Kit.cell_below bA z4
            replace z5 := Kit.cell_below bA z5
            have B6 := Lib.hid (Kit.chain B5.out bA)
            clear bA
            have nf : (!false) = true := rfl
            have nt : (!true) = false := rfl
            go_wp2_with fail
            go_ret
            exact ⟨by simp, B6.out⟩
    · by_cases hf100 : f ≤ 100
      · obtain ⟨g, rfl⟩ := Int.eq_ofNat_of_zero_le (show 0 ≤ f by omega)
        have hg0 : (0 : Int) ≤ (g : Int) := by omega
        clear hf0
        have k1 := fun W (hW : Below w.heap.size w W) => Rd.wrong_calls c v len A len cap l W (HL.out.below hW) (by omega) (fun x hx => Nat.le_trans (HXN.out x hx) (by omega)) (by omega) (by omega)
        have k2 := fun W (hW : Below w.heap.size w W) => Rd.heard_calls n c v len A len cap l W (HL.out.below hW) (by omega) hcap HNIL.out (by omega) (by omega)
        have k3 := fun W (hW : Below w.heap.size w W) => Rd.wrong_calls c v (g : Int) A len cap l W (HL.out.below hW) (by omega) (fun x hx => Nat.le_trans (HXN.out x hx) (by omega)) (by omega) (by omega)
        have k4 := fun W (hW : Below w.heap.size w W) => Rd.wrong_calls c v ((g : Int) + mo) A len cap l W (HL.out.below hW) (by omega) (fun x hx => Nat.le_trans (HXN.out x hx) (by omega)) (by omega) (by omega)
        have k5 := fun W (hW : Below w.heap.size w W) => Rd.heard_calls n c v (g : Int) A len cap l W (HL.out.below hW) (by omega) hcap HNIL.out (by omega) (by omega)
        have hp1 : Rd.wrong c v len l = none := by have := past c v l; rw [HLL.out] at this; exact this
        rw [hp1] at k1
        have hlat : ∀ b, Rd.wrong c v ((g : Int) + mo) l = some b → ∃ a, Rd.wrong c v (g : Int) l = some a ∧ a ≤ b := fun b hb => later (by omega) (by omega) hb
        have hsm : ∀ a, Rd.wrong c v (g : Int) l = some a → (g : Int) < (a : Int) ∧ a < len := fun a ha => by
          obtain ⟨_, h1, h2, _⟩ := Rd.wrong_some ha
          rw [HLL.out] at h1
          exact ⟨h2, h1⟩
        generalize Rd.wrong c v (g : Int) l = o1 at *
        generalize Rd.wrong c v ((g : Int) + mo) l = o2 at *
        simp only [Sy.firstV, Option.getD_none, Option.isSome_none, cast0] at k1 k3 k4
        have K1 := Lib.hid k1
        have K2 := Lib.hid k2
        have K3 := Lib.hid k3
        have K4 := Lib.hid k4
        have K5 := Lib.hid k5
        have HLAT := Lib.hid hlat
        have HSM := Lib.hid hsm
        clear k1 k2 k3 k4 k5 hp1 hlat hsm
        go_wp2_with fail
        refine (K1.out _ (Kit.alloc1 ..)).mono ?_
        rintro e u1 ⟨rfl, b1⟩
        replace z0 := Kit.cell_below b1 z0
        replace z1 := Kit.cell_below b1 z1
        replace z2 := Kit.cell_below b1 z2
        replace z3 := Kit.cell_below b1 z3
        replace z4 := Kit.cell_below b1 z4
        replace z5 := Kit.cell_below b1 z5
        have B1 := Lib.hid (Kit.chain (Kit.alloc1 ..) b1)
        clear b1
        go_wp2_with fail
        refine (K2.out _ B1.out).mono ?_
        rintro e u2 ⟨p2, hp2, rfl, b2⟩
        replace z0 := Kit.cell_below b2 z0
        replace z1 := Kit.cell_below b2 z1
        replace z2 := Kit.cell_below b2 z2
        replace z3 := Kit.cell_below b2 z3
        replace z4 := Kit.cell_below b2 z4
        replace z5 := Kit.cell_below b2 z5
        have B2 := Lib.hid (Kit.chain B1.out b2)
        obtain rfl : p2 = none := unpast (by rw [HLL.out]; exact hp2)
        simp only [Sy.firstV, Option.getD_none, Option.isSome_none, cast0]
        clear hp2
        clear b2
        go_wp2_with fail
        refine (K3.out _ B2.out).mono ?_
        rintro e u3 ⟨rfl, b3⟩
        replace z0 := Kit.cell_below b3 z0
        replace z1 := Kit.cell_below b3 z1
        replace z2 := Kit.cell_below b3 z2
        replace z3 := Kit.cell_below b3 z3
        replace z4 := Kit.cell_below b3 z4
        replace z5 := Kit.cell_below b3 z5
        have B3 := Lib.hid (Kit.chain B2.out b3)
        clear b3
        go_wp2_with fail
        refine (K4.out _ B3.out).mono ?_
        rintro e u4 ⟨rfl, b4⟩
        replace z0 := Kit.cell_below b4 z0
        replace z1 := Kit.cell_below b4 z1
        replace z2 := Kit.cell_below b4 z2
        replace z3 := Kit.cell_below b4 z3
        replace z4 := Kit.cell_below b4 z4
        replace z5 := Kit.cell_below b4 z5
        have B4 := Lib.hid (Kit.chain B3.out b4)
        clear b4
        go_wp2_with fail
        refine (K5.out _ B4.out).mono ?_
        rintro e u5 ⟨p5, hp5, rfl, b5⟩
        replace z0 := Kit.cell_below b5 z0
        replace z1 := Kit.cell_below b5 z1
        replace z2 := Kit.cell_below b5 z2
        replace z3 := Kit.cell_below b5 z3
        replace z4 := Kit.cell_below b5 z4
        replace z5 := Kit.cell_below b5 z5
        have B5 := Lib.hid (Kit.chain B4.out b5)
        have HP5 := Lib.hid hp5
        clear hp5
        simp only [Sy.firstV]
        clear b5
        go_wp2_with fail
        cases o2 with
        | none =>
          simp only [Option.getD_none, Option.isSome_none, cast0]
          cases o1 with
          | none =>
            simp only [Option.getD_none, Option.isSome_none, cast0]
            cases p5 with
            | none =>
              simp only [Option.getD_none, Option.isSome_none, cast0]
              go_wp2_with fail
              refine (Rd.awake_calls _).mono ?_
              rintro e wA ⟨rfl, bA⟩
              replace z0 := Kit.cell_below bA z0
              replace z1 := Kit.cell_below bA z1
              replace z2 := Kit.cell_below bA z2
              replace z3 := Kit.cell_below bA z3
              replace z4 := Kit.cell_below bA z4
              replace z5 := Kit.cell_below bA z5
              have B6 := Lib.hid (Kit.chain B5.out bA)
              clear bA
              have nf : (!false) = true := rfl
              have nt : (!true) = false := rfl
              go_wp2_with fail
              go_ret
              exact ⟨by simp, B6.out⟩
            | some id =>
              obtain ⟨h1, h2⟩ := heardOne HP5.out
              have w1 : decide ((id : Int) < n) = true := decide_eq_true h1
              simp only [Option.getD_some, Option.isSome_some]
              cases e1 : c == 1 with
              | false =>
                have w2 : (c != 1) = true := by rw [bne_iff_ne]; exact beq_eq_false_iff_ne.1 e1
                clear h1 h2 e1
                go_wp2_with fail
                refine (Rd.awake_calls _).mono ?_
                rintro e wA ⟨rfl, bA⟩
                replace z0 := Kit.cell_below bA z0
                replace z1 := Kit.cell_below bA z1
                replace z2 := Kit.cell_below bA z2
                replace z3 := Kit.cell_below bA z3
                replace z4 := Kit.cell_below bA z4
                replace z5 := Kit.cell_below bA z5
                have B6 := Lib.hid (Kit.chain B5.out bA)
                clear bA
                have nf : (!false) = true := rfl
                have nt : (!true) = false := rfl
                go_wp2_with fail
                go_ret
                exact ⟨by simp, B6.out⟩
              | true =>
                have w2 : (c != 1) = false := by rw [bne_eq_false_iff_eq]; exact eq_of_beq e1
                have w3 : (v != (id : Int)) = true := by
                  rw [bne_iff_ne]
                  intro h
                  unfold Vw.fnode at h2
                  rw [e1, h] at h2
                  simp at h2
                clear h1 h2 e1
                go_wp2_with fail
                refine (Rd.awake_calls _).mono ?_
                rintro e wA ⟨rfl, bA⟩
                replace z0 := Kit.cell_below bA z0
                replace z1 := Kit.cell_below bA z1
                replace z2 := Kit.cell_below bA z2
                replace z3 := Kit.cell_below bA z3
                replace z4 := Kit.cell_below bA z4
                replace z5 := Kit.cell_below bA z5
                have B6 := Lib.hid (Kit.chain B5.out bA)
                clear bA
                have nf : (!false) = true := rfl
                have nt : (!true) = false := rfl
                go_wp2_with fail
                go_ret
                exact ⟨by simp, B6.out⟩
          | some a =>
            obtain ⟨h3, h4⟩ := HSM.out a rfl
            have y1 : decide ((g : Int) < (a : Int)) = true := decide_eq_true h3
            have y1n : g < a := by omega
            have y1d : decide (g < a) = true := decide_eq_true y1n
            have y2d : decide (a < len) = true := decide_eq_true h4
            have y2 : decide ((a : Int) < (len : Int)) = true := by simp; omega
            simp only [Option.getD_some, Option.isSome_some]
            clear h3
            cases p5 with
            | none =>
              simp only [Option.getD_none, Option.isSome_none, cast0]
              go_wp2_with fail
              refine (Rd.awake_calls _).mono ?_
              rintro e wA ⟨rfl, bA⟩
              replace z0 := Kit.cell_below bA z0
              replace z1 := Kit.cell_below bA z1
              replace z2 := Kit.cell_below bA z2
              replace z3 := Kit.cell_below bA z3
              replace z4 := Kit.cell_below bA z4
              replace z5 := Kit.cell_below bA z5
              have B6 := Lib.hid (Kit.chain B5.out bA)
              clear bA
              have nf : (!false) = true := rfl
              have nt : (!true) = false := rfl
              go_wp2_with fail
              go_ret
              exact ⟨by simp, B6.out⟩
            | some id =>
              obtain ⟨h1, h2⟩ := heardOne HP5.out
              have w1 : decide ((id : Int) < n) = true := decide_eq_true h1
              simp only [Option.getD_some, Option.isSome_some]
              cases e1 : c == 1 with
              | false =>
                have w2 : (c != 1) = true := by rw [bne_iff_ne]; exact beq_eq_false_iff_ne.1 e1
                clear h1 h2 e1
                go_wp2_with fail
                refine (Rd.awake_calls _).mono ?_
                rintro e wA ⟨rfl, bA⟩
                replace z0 := Kit.cell_below bA z0
                replace z1 := Kit.cell_below bA z1
                replace z2 := Kit.cell_below bA z2
                replace z3 := Kit.cell_below bA z3
                replace z4 := Kit.cell_below bA z4
                replace z5 := Kit.cell_below bA z5
                have B6 := Lib.hid (Kit.chain B5.out bA)
                clear bA
                have nf : (!false) = true := rfl
                have nt : (!true) = false := rfl
                go_wp2_with fail
                go_ret
                exact ⟨by simp, B6.out⟩
              | true =>
                have w2 : (c != 1) = false := by rw [bne_eq_false_iff_eq]; exact eq_of_beq e1
                have w3 : (v != (id : Int)) = true := by
                  rw [bne_iff_ne]
                  intro h
                  unfold Vw.fnode at h2
                  rw [e1, h] at h2
                  simp at h2
                clear h1 h2 e1
                go_wp2_with fail
                refine (Rd.awake_calls _).mono ?_
                rintro e wA ⟨rfl, bA⟩
                replace z0 := Kit.cell_below bA z0
                replace z1 := Kit.cell_below bA z1
                replace z2 := Kit.cell_below bA z2
                replace z3 := Kit.cell_below bA z3
                replace z4 := Kit.cell_below bA z4
                replace z5 := Kit.cell_below bA z5
                have B6 := Lib.hid (Kit.chain B5.out bA)
                clear bA
                have nf : (!false) = true := rfl
                have nt : (!true) = false := rfl
                go_wp2_with fail
                go_ret
                exact ⟨by simp, B6.out⟩
        | some b =>
          obtain ⟨a, rfl, hab⟩ := HLAT.out b rfl
          obtain ⟨h3, h4⟩ := HSM.out a rfl
          have y1 : decide ((g : Int) < (a : Int)) = true := decide_eq_true h3
          have y1n : g < a := by omega
          have y1d : decide (g < a) = true := decide_eq_true y1n
          have y2d : decide (a < len) = true := decide_eq_true h4
          have y3d : decide (a ≤ b) = true := decide_eq_true hab
          have y2 : decide ((a : Int) < (len : Int)) = true := by simp; omega
          have y3 : decide ((a : Int) ≤ (b : Int)) = true := by simp; omega
          simp only [Option.getD_some, Option.isSome_some]
          clear h3
          cases p5 with
          | none =>
            simp only [Option.getD_none, Option.isSome_none, cast0]
            go_wp2_with fail
            refine (Rd.awake_calls _).mono ?_
            rintro e wA ⟨rfl, bA⟩
            replace z0 := Kit.cell_below bA z0
            replace z1 := Kit.cell_below bA z1
            replace z2 := Kit.cell_below bA z2
            replace z3 := Kit.cell_below bA z3
            replace z4 := Kit.cell_below bA z4
            replace z5 := Kit.cell_below bA z5
            have B6 := Lib.hid (Kit.chain B5.out bA)
            clear bA
            have nf : (!false) = true := rfl
            have nt : (!true) = false := rfl
            go_wp2_with fail
            go_ret
            exact ⟨by simp, B6.out⟩
          | some id =>
            obtain ⟨h1, h2⟩ := heardOne HP5.out
            have w1 : decide ((id : Int) < n) = true := decide_eq_true h1
            simp only [Option.getD_some, Option.isSome_some]
            cases e1 : c == 1 with
            | false =>
              have w2 : (c != 1) = true := by rw [bne_iff_ne]; exact beq_eq_false_iff_ne.1 e1
              clear h1 h2 e1
              go_wp2_with fail
              refine (Rd.awake_calls _).mono ?_
              rintro e wA ⟨rfl, bA⟩
              replace z0 := Kit.cell_below bA z0
              replace z1 := Kit.cell_below bA z1
              replace z2 := Kit.cell_below bA z2
              replace z3 := Kit.cell_below bA z3
              replace z4 := Kit.cell_below bA z4
              replace z5 := Kit.cell_below bA z5
              have B6 := Lib.hid (Kit.chain B5.out bA)
              clear bA
              have nf : (!false) = true := rfl
              have nt : (!true) = false := rfl
              go_wp2_with fail
              go_ret
              exact ⟨by simp, B6.out⟩
            | true =>
              have w2 : (c != 1) = false := by rw [bne_eq_false_iff_eq]; exact eq_of_beq e1
              have w3 : (v != (id : Int)) = true := by
                rw [bne_iff_ne]
                intro h
                unfold Vw.fnode at h2
                rw [e1, h] at h2
                simp at h2
              clear h1 h2 e1
              go_wp2_with fail
              refine (Rd.awake_calls _).mono ?_
              rintro e wA ⟨rfl, bA⟩
              replace z0 := Kit.cell_below bA z0
              replace z1 := Kit.cell_below bA z1
              replace z2 := Kit.cell_below bA z2
              replace z3 := Kit.cell_below bA z3
              replace z4 := Kit.cell_below bA z4
              replace z5 := Kit.cell_below bA z5
              have B6 := Lib.hid (Kit.chain B5.out bA)
              clear bA
              have nf : (!false) = true := rfl
              have nt : (!true) = false := rfl
              go_wp2_with fail
              go_ret
              exact ⟨by simp, B6.out⟩
      · have hf101 : 100 < f := by omega
        have hf102 : (100 : Int) ≤ f := by omega
        have k1 := fun W (hW : Below w.heap.size w W) => Rd.wrong_calls c v len A len cap l W (HL.out.below hW) (by omega) (fun x hx => Nat.le_trans (HXN.out x hx) (by omega)) (by omega) (by omega)
        have k2 := fun W (hW : Below w.heap.size w W) => Rd.heard_calls n c v len A len cap l W (HL.out.below hW) (by omega) hcap HNIL.out (by omega) (by omega)
        have k3 := fun W (hW : Below w.heap.size w W) => Rd.wrong_calls c v 100 A len cap l W (HL.out.below hW) (by omega) (fun x hx => Nat.le_trans (HXN.out x hx) (by omega)) (by omega) (by omega)
        have k4 := fun W (hW : Below w.heap.size w W) => Rd.wrong_calls c v (100 + mo) A len cap l W (HL.out.below hW) (by omega) (fun x hx => Nat.le_trans (HXN.out x hx) (by omega)) (by omega) (by omega)
        have k5 := fun W (hW : Below w.heap.size w W) => Rd.heard_calls n c v 100 A len cap l W (HL.out.below hW) (by omega) hcap HNIL.out (by omega) (by omega)
        have hp1 : Rd.wrong c v len l = none := by have := past c v l; rw [HLL.out] at this; exact this
        rw [hp1] at k1
        have hlat : ∀ b, Rd.wrong c v (100 + mo) l = some b → ∃ a, Rd.wrong c v 100 l = some a ∧ a ≤ b := fun b hb => later (by omega) (by omega) hb
        have hsm : ∀ a, Rd.wrong c v 100 l = some a → 100 < (a : Int) ∧ a < len := fun a ha => by
          obtain ⟨_, h1, h2, _⟩ := Rd.wrong_some ha
          rw [HLL.out] at h1
          exact ⟨h2, h1⟩
        generalize Rd.wrong c v 100 l = o1 at *
        generalize Rd.wrong c v (100 + mo) l = o2 at *
        simp only [Sy.firstV, Option.getD_none, Option.isSome_none, cast0] at k1 k3 k4
        have K1 := Lib.hid k1
        have K2 := Lib.hid k2
        have K3 := Lib.hid k3
        have K4 := Lib.hid k4
        have K5 := Lib.hid k5
        have HLAT := Lib.hid hlat
        have HSM := Lib.hid hsm
        clear k1 k2 k3 k4 k5 hp1 hlat hsm
        go_wp2_with fail
        refine (K1.out _ (Kit.alloc1 ..)).mono ?_
        rintro e u1 ⟨rfl, b1⟩
        replace z0 := Kit.cell_below b1 z0
        replace z1 := Kit.cell_below b1 z1
        replace z2 := Kit.cell_below b1 z2
        replace z3 := Kit.cell_below b1 z3
        replace z4 := Kit.cell_below b1 z4
        replace z5 := Kit.cell_below b1 z5
        have B1 := Lib.hid (Kit.chain (Kit.alloc1 ..) b1)
        clear b1
        go_wp2_with fail
        refine (K2.out _ B1.out).mono ?_
        rintro e u2 ⟨p2, hp2, rfl, b2⟩
        replace z0 := Kit.cell_below b2 z0
        replace z1 := Kit.cell_below b2 z1
        replace z2 := Kit.cell_below b2 z2
        replace z3 := Kit.cell_below b2 z3
        replace z4 := Kit.cell_below b2 z4
        replace z5 := Kit.cell_below b2 z5
        have B2 := Lib.hid (Kit.chain B1.out b2)
        obtain rfl : p2 = none := unpast (by rw [HLL.out]; exact hp2)
        simp only [Sy.firstV, Option.getD_none, Option.isSome_none, cast0]
        clear hp2
        clear b2
        go_wp2_with fail
        refine (K3.out _ B2.out).mono ?_
        rintro e u3 ⟨rfl, b3⟩
        replace z0 := Kit.cell_below b3 z0
        replace z1 := Kit.cell_below b3 z1
        replace z2 := Kit.cell_below b3 z2
        replace z3 := Kit.cell_below b3 z3
        replace z4 := Kit.cell_below b3 z4
        replace z5 := Kit.cell_below b3 z5
        have B3 := Lib.hid (Kit.chain B2.out b3)
        clear b3
        go_wp2_with fail
        refine (K4.out _ B3.out).mono ?_
        rintro e u4 ⟨rfl, b4⟩
        replace z0 := Kit.cell_below b4 z0
        replace z1 := Kit.cell_below b4 z1
        replace z2 := Kit.cell_below b4 z2
        replace z3 := Kit.cell_below b4 z3
        replace z4 := Kit.cell_below b4 z4
        replace z5 := Kit.cell_below b4 z5
        have B4 := Lib.hid (Kit.chain B3.out b4)
        clear b4
        go_wp2_with fail
        refine (K5.out _ B4.out).mono ?_
        rintro e u5 ⟨p5, hp5, rfl, b5⟩
        replace z0 := Kit.cell_below b5 z0
        replace z1 := Kit.cell_below b5 z1
        replace z2 := Kit.cell_below b5 z2
        replace z3 := Kit.cell_below b5 z3
        replace z4 := Kit.cell_below b5 z4
        replace z5 := Kit.cell_below b5 z5
        have B5 := Lib.hid (Kit.chain B4.out b5)
        have HP5 := Lib.hid hp5
        clear hp5
        simp only [Sy.firstV]
        clear b5
        go_wp2_with fail
        cases o2 with
        | none =>
          simp only [Option.getD_none, Option.isSome_none, cast0]
          cases o1 with
          | none =>
            simp only [Option.getD_none, Option.isSome_none, cast0]
            cases p5 with
            | none =>
              simp only [Option.getD_none, Option.isSome_none, cast0]
              go_wp2_with fail
              refine (Rd.awake_calls _).mono ?_
              rintro e wA ⟨rfl, bA⟩
              replace z0 := Kit.cell_below bA z0
              replace z1 := Kit.cell_below bA z1
              replace z2 := Kit.cell_below bA z2
              replace z3 := Kit.cell_below bA z3
              replace z4 := Kit.cell_below bA z4
              replace z5 := Kit.cell_below bA z5
              have B6 := Lib.hid (Kit.chain B5.out bA)
              clear bA
              have nf : (!false) = true := rfl
              have nt : (!true) = false := rfl
              go_wp2_with fail
              go_ret
              exact ⟨by simp, B6.out⟩
            | some id =>
              obtain ⟨h1, h2⟩ := heardOne HP5.out
              have w1 : decide ((id : Int) < n) = true := decide_eq_true h1
              simp only [Option.getD_some, Option.isSome_some]
              cases e1 : c == 1 with
              | false =>
                have w2 : (c != 1) = true := by rw [bne_iff_ne]; exact beq_eq_false_iff_ne.1 e1
                clear h1 h2 e1
                go_wp2_with fail
                refine (Rd.awake_calls _).mono ?_
                rintro e wA ⟨rfl, bA⟩
                replace z0 := Kit.cell_below bA z0
                replace z1 := Kit.cell_below bA z1
                replace z2 := Kit.cell_below bA z2
                replace z3 := Kit.cell_below bA z3
                replace z4 := Kit.cell_below bA z4
                replace z5 := Kit.cell_below bA z5
                have B6 := Lib.hid (Kit.chain B5.out bA)
                clear bA
                have nf : (!false) = true := rfl
                have nt : (!true) = false := rfl
                go_wp2_with fail
                go_ret
                exact ⟨by simp, B6.out⟩
              | true =>
                have w2 : (c != 1) = false := by rw [bne_eq_false_iff_eq]; exact eq_of_beq e1
                have w3 : (v != (id : Int)) = true := by
                  rw [bne_iff_ne]
                  intro h
                  unfold Vw.fnode at h2
                  rw [e1, h] at h2
                  simp at h2
                clear h1 h2 e1
                go_wp2_with fail
                refine (Rd.awake_calls _).mono ?_
                rintro e wA ⟨rfl, bA⟩
                replace z0 := Kit.cell_below bA z0
                replace z1 := Kit.cell_below bA z1
                replace z2 := Kit.cell_below bA z2
                replace z3 := Kit.cell_below bA z3
                replace z4 := Kit.cell_below bA z4
                replace z5 := Kit.cell_below bA z5
                have B6 := Lib.hid (Kit.chain B5.out bA)
                clear bA
                have nf : (!false) = true := rfl
                have nt : (!true) = false := rfl
                go_wp2_with fail
                go_ret
                exact ⟨by simp, B6.out⟩
          | some a =>
            obtain ⟨h3, h4⟩ := HSM.out a rfl
            exfalso
            omega
        | some b =>
          obtain ⟨a, rfl, hab⟩ := HLAT.out b rfl
          obtain ⟨h3, h4⟩ := HSM.out a rfl
          exfalso
          omega

theorem walk (v : Value) (a1 : Int) {w : World} (w0 : Op.IsRAsk w v) (w1 : (Lit.int .u8 a1).wf = true) (w' : World) (hw : w' = w := by rfl) :
    Calls Try.prog 22 #[v, .int .u8 a1] w fun e w' => e = .returned (.bool true) ∧ Below w.heap.size w w' := by
  obtain ⟨n, f, c, u, x, y, rfl, _, hf, _, _, hx, hy⟩ := w0
  obtain ⟨A2, n2, cap2, ah, rfl, hm2, hah, _⟩ := hx
  obtain ⟨A, len, cap, l, rfl, hm, hl, hc, hnil⟩ := hy
  unfold maxLen at hm hm2
  exact walk1 n f c u A A2 len cap n2 cap2 l ah w hl hah (by omega) (by omega) hc hnil a1 (bounds_u8 w1) hf.1 hf.2
end Go.Proofs.Ytpbkoooljelhjaa.RoundNone
