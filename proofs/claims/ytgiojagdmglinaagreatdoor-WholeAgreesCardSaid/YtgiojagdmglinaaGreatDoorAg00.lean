/-
  Part 0 of a merged text.
-/
import Derived.Test.YtgiojagdmglinaaGreatDoorRows
import Derived.WalkKit
import Derived.ProofKit
import Derived.Test.YtgiojagdmglinaaGreatDoorGb36
import Derived.Test.YtgiojagdmglinaaGreatDoorGb00
import Derived.Test.YtgiojagdmglinaaGreatDoorProg
import Derived.BigRegion
import Derived.IntWalk
import Derived.Deep.QuietTactic
import Derived.BigQuiet
set_option linter.unusedVariables false
set_option linter.unusedSimpArgs false
set_option maxRecDepth 100000
namespace Go.Proofs.YtgiojagdmglinaaGreatDoor.WholeAgrees
theorem own : ownKnob Tryz.prog.godebug = none := by kernel_rfl
theorem laidOut : laidOutB Tryz.prog = true := by kernel_rfl
theorem named : Tryz.pinned.checked.prog.funcNamed Rows.wholeAgreesRow.func = some 9 := by kernel_rfl
theorem facts : joinedFacts Tryz.pinned.checked.prog 9 Tryz.f9 Rows.wholeAgreesSpec Rows.wholeAgreesRow = true := by kernel_rfl
end Go.Proofs.YtgiojagdmglinaaGreatDoor.WholeAgrees
namespace Go.Proofs.YtgiojagdmglinaaGreatDoor
open Go.RowKit
set_option maxHeartbeats 400000 in
theorem Sy.next_calls (n p : Int) (w : World) (h3 : 3 ≤ n) (h8 : n ≤ 8) (hp : 0 ≤ p ∧ p < n) :
  Calls Tryz.prog 49 #[.int .i64 n, .int .i64 p] w fun e w' => e = .returned (.int .i64 (Wm.nx n p)) ∧ w = w' := by
 obtain ⟨hp0, hp1⟩ := hp
 unfold Wm.nx
 by_cases h : p = n - 1
 ·rw [if_pos h]
  have g : (p == n - 1) = true := by rw [h]; simp
  clear h
  go_enter Tryz.func49, Tryz.ntmps49
  go_wp2_with fail
  go_ret
  exact ⟨rfl, rfl⟩
 ·rw [if_neg h]
  have g : (p == n - 1) = false := beq_eq_false_iff_ne.2 h
  clear h
  go_enter Tryz.func49, Tryz.ntmps49
  go_wp2_with fail
  go_ret
  exact ⟨rfl, rfl⟩
set_option maxHeartbeats 4000000 in
theorem Sy.split_calls (c v : Int) (A : Option Addr) (len cap : Nat) (l : List Lk) (w : World) (hl : Looks w A len l) (hlen : len ≤ 1000000) (hm : ∀ x ∈ l, x.n ≤ 1000000) :
  Calls Tryz.prog 24 #[.agg #[.int .i64 c, .int .i64 v], .slice A len cap] w fun e w' => e = .returned (Sy.firstV (Sy.split c v l)) ∧ Below w.heap.size w w' := by
 have HL := Lib.hid hl
 have HM := Lib.hid hm
 have hll := hl.len
 have HLL := Lib.hid hll
 clear hl hm hll
 go_enter Tryz.func24, Tryz.ntmps24
 go_wp2_with fail
 go_loopw [6, 7, 8, 9, 12] (fun _ _ _ _ vi wr => ∃ k : Nat, k ≤ len ∧ vi = .int .i64 k ∧ wr.cell? ⟨w.heap.size, 0, none⟩ = some (.int .i64 c) ∧ wr.cell? ⟨w.heap.size, 1, none⟩ = some (.int .i64 v) ∧ Hid (Below w.heap.size w wr) ∧ Hid (∀ (j : Nat) (y : Lk), j < k → l[j]? = some y → Sy.parts c v y = false)) (fun _ _ _ _ vi _ => len - (intOf vi).toNat)
 case atStart => exact ⟨0, by omega, rfl, by go_simp, by go_simp, Lib.hid (Kit.alloc1 ..), Lib.hid (fun j y h => absurd h (by omega))⟩
 case round =>
  obtain ⟨k, hk, rfl, c0, c1, HB, HA⟩ := hrel
  have hws := World.block_lt_of_cell? wr ⟨w.heap.size, 0, none⟩ c0
  by_cases hlt : k < len
  ·obtain ⟨b, off, rfl, hb, hrow⟩ := HL.out.row (by omega)
   have hkl : k < l.length := by rw [HLL.out]; exact hlt
   obtain ⟨x, hx⟩ : ∃ x, l[k]? = some x := ⟨_, List.getElem?_eq_getElem hkl⟩
   obtain ⟨r0, r1, r2, r3, r4, r5⟩ := hrow k x hx
   have m0 := (HB.out.cell (p := ⟨b, off + k * 6, none⟩) hb).trans r0
   have m1 := (HB.out.cell (p := ⟨b, off + k * 6 + 1, none⟩) hb).trans r1
   have m2 := (HB.out.cell (p := ⟨b, off + k * 6 + 2, none⟩) hb).trans r2
   have m3 := (HB.out.cell (p := ⟨b, off + k * 6 + 3, none⟩) hb).trans r3
   have m4 := (HB.out.cell (p := ⟨b, off + k * 6 + 4, none⟩) hb).trans r4
   have m5 := (HB.out.cell (p := ⟨b, off + k * 6 + 5, none⟩) hb).trans r5
   have HX := Lib.hid hx
   have hth := HL.out.there x (List.mem_of_getElem? hx)
   have hxn := HM.out x (List.mem_of_getElem? hx)
   have k1 := fun W (hW : Below w.heap.size w W) => Vw.vactive_calls c v x.at_ x.n x.cap x.nodes W (hth.nodes.below hW) hxn
   have k2 := fun W (hW : Below w.heap.size w W) => Vw.vslot_calls c v x.at_ x.n x.cap x.nodes W (hth.nodes.below hW) hxn
   have hps : Sy.parts c v x = ((!(Vw.active c v x.nodes).isEmpty) && (Vw.slot c v x.nodes).isNone) := rfl
   have hal : (Vw.active c v x.nodes).length ≤ 1000000 := by
    have h1 := Vw.places_len c v Vw.act x.nodes x.nodes.length
    have h2 := hth.nodes.len
    unfold Vw.active
    omega
   have hae : (Vw.active c v x.nodes).isEmpty = decide ((Vw.active c v x.nodes).length = 0) := by cases Vw.active c v x.nodes <;> simp
   rw [hae] at hps
   have HAL := Lib.hid hal
   have BB : Below w.heap.size w (wr.alloc (.cells #[.int .i64 x.tick, .int .i64 x.r0.k, .int .i64 x.r0.i, .int .i64 x.r1.k, .int .i64 x.r1.i, .slice x.at_ x.n x.cap] 48)) := HB.out.alloc HB.out.size _
   have k1' := k1 _ BB
   have HBB := Lib.hid BB
   have K2 := Lib.hid k2
   clear r0 r1 r2 r3 r4 r5 hrow hx hth hxn k1 hae BB k2 hal
   obtain ⟨xt, ⟨x0k, x0i⟩, ⟨x1k, x1i⟩, xA, xn, xc, xs⟩ := x
   simp only at m0 m1 m2 m3 m4 m5 hps
   have HPS := Lib.hid hps
   clear hps
   by_cases h0 : (Vw.active c v xs).length = 0
   ·have hp : Sy.parts c v ⟨xt, ⟨x0k, x0i⟩, ⟨x1k, x1i⟩, xA, xn, xc, xs⟩ = false := by rw [HPS.out, decide_eq_true h0]; rfl
    have HA2 : Hid (∀ (j : Nat) (y : Lk), j < k + 1 → l[j]? = some y → Sy.parts c v y = false) := Lib.hid (fun j y hj hy => by
     by_cases e : j = k
     ·subst e; rw [HX.out] at hy; injection hy with hy; rw [← hy]; exact hp
     ·exact HA.out j y (by omega) hy)
    clear hp
    unfold Vw.Row at k1'
    rw [h0] at k1'
    go_wp2_with fail
    refine k1'.mono ?_
    clear k1'
    rintro e w1 ⟨v1, rfl, hown, b1⟩
    have hf : ∃ A1 c1, v1 = .slice A1 0 c1 := by
     rcases hown.2 with ⟨rfl, _⟩ | ⟨g, cp, cur, rfl, _⟩
     ·exact ⟨none, 0, rfl⟩
     ·exact ⟨_, _, rfl⟩
    obtain ⟨A1, cap1, rfl⟩ := hf
    replace b1 := Kit.chain (Kit.alloc1 ..) b1
    replace c0 := Kit.cell_below b1 c0
    replace c1 := Kit.cell_below b1 c1
    have B1 := Lib.hid (Kit.chain HB.out b1)
    clear hown b1
    go_wp2_with fail
    go_roundw
    case rel => exact ⟨k + 1, by omega, by go_num, c0, c1, B1, HA2⟩
    case measure => simp [intOf]; omega
   ·have h0' : ((Vw.active c v xs).length == 0) = false := beq_eq_false_iff_ne.2 h0
    have h0'' : (((Vw.active c v xs).length : Int) == 0) = false := beq_eq_false_iff_ne.2 (by omega)
    have h0p : 0 < (Vw.active c v xs).length := by omega
    cases hs : Vw.slot c v xs with
    | none =>
     have hp : Sy.parts c v ⟨xt, ⟨x0k, x0i⟩, ⟨x1k, x1i⟩, xA, xn, xc, xs⟩ = true := by rw [HPS.out, decide_eq_false h0, hs]; rfl
     have HR := Lib.hid (Sy.split_hit HX.out hp HA.out)
     simp only at K2
     rw [hs] at K2
     simp only [Vw.slotV, Option.getD_none, Option.isSome_none] at K2
     clear hp hs h0
     go_wp2_with fail
     refine k1'.mono ?_
     clear k1'
     rintro e w1 ⟨v1, rfl, hown, b1⟩
     obtain ⟨A1, cap1, rfl, _⟩ := Vw.Ints.of_own hown
     have p0 := Kit.cell_new b1 0 rfl
     have p1 := Kit.cell_new b1 1 rfl
     have p2 := Kit.cell_new b1 2 rfl
     have p3 := Kit.cell_new b1 3 rfl
     have p4 := Kit.cell_new b1 4 rfl
     have p5 := Kit.cell_new b1 5 rfl
     replace b1 := Kit.chain (Kit.alloc1 ..) b1
     replace c0 := Kit.cell_below b1 c0
     replace c1 := Kit.cell_below b1 c1
     have B1 := Lib.hid (Kit.chain HB.out b1)
     clear hown b1
     have k2' := K2.out w1 B1.out
     go_wp2_with fail
     refine k2'.mono ?_
     rintro e w2 ⟨rfl, b2⟩
     have B2 := Lib.hid (Kit.chain B1.out b2)
     clear b2
     go_wp2_with fail
     go_ret2
     exact ⟨by rw [HR.out]; rfl, B2.out⟩
    | some q =>
     have hp : Sy.parts c v ⟨xt, ⟨x0k, x0i⟩, ⟨x1k, x1i⟩, xA, xn, xc, xs⟩ = false := by rw [HPS.out, hs]; simp
     have HA2 : Hid (∀ (j : Nat) (y : Lk), j < k + 1 → l[j]? = some y → Sy.parts c v y = false) := Lib.hid (fun j y hj hy => by
      by_cases e : j = k
      ·subst e; rw [HX.out] at hy; injection hy with hy; rw [← hy]; exact hp
      ·exact HA.out j y (by omega) hy)
     simp only at K2
     rw [hs] at K2
     simp only [Vw.slotV, Option.getD_some, Option.isSome_some] at K2
     clear hp hs h0
     go_wp2_with fail
     refine k1'.mono ?_
     clear k1'
     rintro e w1 ⟨v1, rfl, hown, b1⟩
     obtain ⟨A1, cap1, rfl, _⟩ := Vw.Ints.of_own hown
     have p0 := Kit.cell_new b1 0 rfl
     have p1 := Kit.cell_new b1 1 rfl
     have p2 := Kit.cell_new b1 2 rfl
     have p3 := Kit.cell_new b1 3 rfl
     have p4 := Kit.cell_new b1 4 rfl
     have p5 := Kit.cell_new b1 5 rfl
     replace b1 := Kit.chain (Kit.alloc1 ..) b1
     replace c0 := Kit.cell_below b1 c0
     replace c1 := Kit.cell_below b1 c1
     have B1 := Lib.hid (Kit.chain HB.out b1)
     clear hown b1
     have k2' := K2.out w1 B1.out
     go_wp2_with fail
     refine k2'.mono ?_
     rintro e w2 ⟨rfl, b2⟩
     replace c0 := Kit.cell_below b2 c0
     replace c1 := Kit.cell_below b2 c1
     have B2 := Lib.hid (Kit.chain B1.out b2)
     clear b2
     go_wp2_with fail
     go_roundw
     case rel => exact ⟨k + 1, by omega, by go_num, c0, c1, B2, HA2⟩
     case measure => simp [intOf]; omega
  ·obtain rfl : k = len := by omega
   have HR := Lib.hid (Sy.split_miss (c := c) (v := v) (l := l) (fun j y hy => HA.out j y (by have := (List.getElem?_eq_some_iff.1 hy).1; rw [HLL.out] at this; exact this) hy))
   go_wp2_with fail
   go_ret2
   exact ⟨by rw [HR.out]; rfl, HB.out⟩
set_option maxHeartbeats 4000000 in
theorem Sy.leaves_calls (c v : Int) (A : Option Addr) (len cap : Nat) (l : List Lk) (w : World) (hl : Looks w A len l) (hlen : len ≤ 1000000) (hm : ∀ x ∈ l, x.n ≤ 1000000) :
  Calls Tryz.prog 25 #[.agg #[.int .i64 c, .int .i64 v], .slice A len cap] w fun e w' => e = .returned (Sy.firstV (Sy.leaves c v l)) ∧ Below w.heap.size w w' := by
 have HL := Lib.hid hl
 have HM := Lib.hid hm
 have hll := hl.len
 have HLL := Lib.hid hll
 clear hl hm hll
 go_enter Tryz.func25, Tryz.ntmps25
 go_wp2_with fail
 go_loopw [6, 7, 10] (fun _ _ vi wr => ∃ k : Nat, k ≤ len ∧ vi = .int .i64 k ∧ wr.cell? ⟨w.heap.size, 0, none⟩ = some (.int .i64 c) ∧ wr.cell? ⟨w.heap.size, 1, none⟩ = some (.int .i64 v) ∧ Hid (Below w.heap.size w wr) ∧ Hid (∀ (j : Nat), j < k → Sy.leftAt c v l j = false)) (fun _ _ vi _ => len - (intOf vi).toNat)
 case atStart => exact ⟨0, by omega, rfl, by go_simp, by go_simp, Lib.hid (Kit.alloc1 ..), Lib.hid (fun j h => absurd h (by omega))⟩
 case round =>
  obtain ⟨k, hk, rfl, c0, c1, HB, HA⟩ := hrel
  have hws := World.block_lt_of_cell? wr ⟨w.heap.size, 0, none⟩ c0
  by_cases hlt : k < len
  ·obtain ⟨b, off, rfl, hb, hrow⟩ := HL.out.row (by omega)
   have hkl : k < l.length := by rw [HLL.out]; exact hlt
   obtain ⟨x, hx⟩ : ∃ x, l[k]? = some x := ⟨_, List.getElem?_eq_getElem hkl⟩
   obtain ⟨r0, r1, r2, r3, r4, r5⟩ := hrow k x hx
   have m0 := (HB.out.cell (p := ⟨b, off + k * 6, none⟩) hb).trans r0
   have m1 := (HB.out.cell (p := ⟨b, off + k * 6 + 1, none⟩) hb).trans r1
   have m2 := (HB.out.cell (p := ⟨b, off + k * 6 + 2, none⟩) hb).trans r2
   have m3 := (HB.out.cell (p := ⟨b, off + k * 6 + 3, none⟩) hb).trans r3
   have m4 := (HB.out.cell (p := ⟨b, off + k * 6 + 4, none⟩) hb).trans r4
   have m5 := (HB.out.cell (p := ⟨b, off + k * 6 + 5, none⟩) hb).trans r5
   have hnx := Sy.nodesAt_of hx
   have hth := HL.out.there x (List.mem_of_getElem? hx)
   have hxn := HM.out x (List.mem_of_getElem? hx)
   by_cases h0 : k = 0
   ·subst h0
    have HA2 : Hid (∀ (j : Nat), j < 0 + 1 → Sy.leftAt c v l j = false) := Lib.hid (fun j hj => by
     obtain rfl : j = 0 := by omega
     rfl)
    clear r0 r1 r2 r3 r4 r5 hrow hx hnx hth hxn
    obtain ⟨xt, ⟨x0k, x0i⟩, ⟨x1k, x1i⟩, xA, xn, xc, xs⟩ := x
    simp only [Nat.zero_mul, Nat.add_zero] at m0 m1 m2 m3 m4 m5
    go_wp2_with fail
    go_quiet (fail)
    go_wp2_with fail
    go_roundw
    case rel => exact ⟨0 + 1, by omega, by go_num, by go_simp, by go_simp, Lib.hid (((HB.out.alloc HB.out.size _)).trans ((Kit.below_drewN _ _).mono (by have := HB.out.size; simp; omega))), HA2⟩
    case measure => simp [intOf]; omega
   ·obtain ⟨j, rfl⟩ : ∃ j, k = j + 1 := ⟨k - 1, by omega⟩
    obtain ⟨y, hy⟩ : ∃ y, l[j]? = some y := ⟨_, List.getElem?_eq_getElem (by omega)⟩
    have n5 := (HB.out.cell (p := ⟨b, off + j * 6 + 5, none⟩) hb).trans (hrow j y hy).2.2.2.2.2
    have hny := Sy.nodesAt_of hy
    have hty := HL.out.there y (List.mem_of_getElem? hy)
    have hyn := HM.out y (List.mem_of_getElem? hy)
    have k1 := fun W (hW : Below w.heap.size w W) => Vw.vchanged_calls c v y.at_ x.at_ y.n y.cap x.n x.cap y.nodes x.nodes W (hty.nodes.below hW) (hth.nodes.below hW) hyn hxn
    have hla : Sy.leftAt c v l (j + 1) = !(Vw.changed c v y.nodes x.nodes).isEmpty := by
     unfold Sy.leftAt
     rw [decide_eq_true (by omega), Nat.add_sub_cancel, hnx, hny]
     rfl
    have hae : (Vw.changed c v y.nodes x.nodes).isEmpty = decide ((Vw.changed c v y.nodes x.nodes).length = 0) := by cases Vw.changed c v y.nodes x.nodes <;> simp
    have hcl : (Vw.changed c v y.nodes x.nodes).length ≤ 1000000 := by
     have h1 := Vw.places_len c v (fun i z => Vw.act i z && (decide (x.nodes.length ≤ i) || !Vw.act i (x.nodes.getD i Nd.zero))) y.nodes y.nodes.length
     have h2 := hty.nodes.len
     unfold Vw.changed
     omega
    rw [hae] at hla
    have HLA := Lib.hid hla
    have K1 := Lib.hid k1
    clear r0 r1 r2 r3 r4 r5 hrow hx hnx hth hxn hy hny hty hyn k1 hla hae
    obtain ⟨xt, ⟨x0k, x0i⟩, ⟨x1k, x1i⟩, xA, xn, xc, xs⟩ := x
    obtain ⟨yt, ⟨y0k, y0i⟩, ⟨y1k, y1i⟩, yA, yn, yc, ys⟩ := y
    simp only at m0 m1 m2 m3 m4 m5 n5 hcl
    have sw : IntKind.i64.wrap ((j : Int) + 1 - 1) = (j : Int) := by rw [show (j : Int) + 1 - 1 = (j : Int) by omega]; exact IntWalk.i64_in _ (by omega)
    have sw2 : IntKind.i64.wrap (j : Int) = (j : Int) := IntWalk.i64_in _ (by omega)
    have ix0 : (0 : Int) ≤ (j : Int) := by omega
    have ix1 : (j : Int) < (len : Int) := by omega
    have ix2 : (0 : Int) ≤ (j : Int) + 1 := by omega
    have ix3 : (j : Int) + 1 < (len : Int) := by omega
    have sw3 : IntKind.i64.wrap ((j : Int) + 1) = (j : Int) + 1 := IntWalk.i64_in _ (by omega)
    have sw4 : ((j : Int) + 1).toNat = j + 1 := by omega
    have SW := Lib.hid (And.intro sw (And.intro sw2 (And.intro sw3 sw4)))
    clear sw sw2 sw3 sw4
    simp only at K1
    unfold Vw.Row at K1
    by_cases h0 : (Vw.changed c v ys xs).length = 0
    ·have hp : Sy.leftAt c v l (j + 1) = false := by rw [HLA.out, decide_eq_true h0]; rfl
     have HA2 : Hid (∀ (i : Nat), i < j + 1 + 1 → Sy.leftAt c v l i = false) := Lib.hid (fun i hi => by
      by_cases e : i = j + 1
      ·rw [e]; exact hp
      ·exact HA.out i (by omega))
     clear hp
     rw [h0] at K1
     go_wp2_with fail
     obtain ⟨sw, sw2, sw3, sw4⟩ := SW.out
     have d0 := Kit.cell_below (Kit.alloc1 wr #[.int .i64 xt, .int .i64 x0k, .int .i64 x0i, .int .i64 x1k, .int .i64 x1i, .slice xA xn xc] 48) c0
     have d1 := Kit.cell_below (Kit.alloc1 wr #[.int .i64 xt, .int .i64 x0k, .int .i64 x0i, .int .i64 x1k, .int .i64 x1i, .slice xA xn xc] 48) c1
     have d2 := Kit.cell_below (Kit.alloc1 wr #[.int .i64 xt, .int .i64 x0k, .int .i64 x0i, .int .i64 x1k, .int .i64 x1i, .slice xA xn xc] 48) n5
     have d3 : (wr.alloc (.cells #[.int .i64 xt, .int .i64 x0k, .int .i64 x0i, .int .i64 x1k, .int .i64 x1i, .slice xA xn xc] 48)).cell? ⟨wr.heap.size, 5, none⟩ = some (.slice xA xn xc) := World.cell?_alloc_new ..
     go_region_held3 (fun w' => w'.cell? ⟨w.heap.size, 0, none⟩ = some (.int .i64 c) ∧ w'.cell? ⟨w.heap.size, 1, none⟩ = some (.int .i64 v) ∧ w'.cell? ⟨b, off + j * 6 + 5, none⟩ = some (.slice yA yn yc) ∧ w'.cell? ⟨wr.heap.size, 5, none⟩ = some (.slice xA xn xc)) (go_keep) ((go_at_call 51; refine (K1.out _ (HB.out.alloc HB.out.size _).drew).mono ?_; rintro e wq ⟨v1, rfl, hown, bq⟩; have hf : ∃ A1 c1, v1 = .slice A1 0 c1 := (by rcases hown.2 with ⟨rfl, _⟩ | ⟨g, cp, cur, rfl, _⟩ <;> exact ⟨_, _, rfl⟩); obtain ⟨A1, cap1, rfl⟩ := hf; replace d0 := Kit.cell_below bq d0; replace d1 := Kit.cell_below bq d1; replace d2 := Kit.cell_below bq d2; replace d3 := Kit.cell_below bq d3; have B1 := Lib.hid ((HB.out.alloc HB.out.size _).drew.trans (bq.mono (HB.out.alloc HB.out.size _).drew.size)); clear bq hown))
     clear sw sw2 sw3 sw4
     go_wp2_with fail
     go_roundw
     case rel => exact ⟨j + 1 + 1, by omega, by go_num, d0, d1, B1, HA2⟩
     case measure => simp [intOf]; omega
    ·have hp : Sy.leftAt c v l (j + 1) = true := by rw [HLA.out, decide_eq_false h0]; rfl
     have HR := Lib.hid (Sy.leaves_hit (by rw [HLL.out]; exact hlt) hp HA.out)
     have h0p : 0 < (Vw.changed c v ys xs).length := by omega
     clear hp h0
     go_wp2_with fail
     obtain ⟨sw, sw2, sw3, sw4⟩ := SW.out
     have d0 := Kit.cell_below (Kit.alloc1 wr #[.int .i64 xt, .int .i64 x0k, .int .i64 x0i, .int .i64 x1k, .int .i64 x1i, .slice xA xn xc] 48) c0
     have d1 := Kit.cell_below (Kit.alloc1 wr #[.int .i64 xt, .int .i64 x0k, .int .i64 x0i, .int .i64 x1k, .int .i64 x1i, .slice xA xn xc] 48) c1
     have d2 := Kit.cell_below (Kit.alloc1 wr #[.int .i64 xt, .int .i64 x0k, .int .i64 x0i, .int .i64 x1k, .int .i64 x1i, .slice xA xn xc] 48) n5
     have d3 : (wr.alloc (.cells #[.int .i64 xt, .int .i64 x0k, .int .i64 x0i, .int .i64 x1k, .int .i64 x1i, .slice xA xn xc] 48)).cell? ⟨wr.heap.size, 5, none⟩ = some (.slice xA xn xc) := World.cell?_alloc_new ..
     go_region_held3 (fun w' => w'.cell? ⟨w.heap.size, 0, none⟩ = some (.int .i64 c) ∧ w'.cell? ⟨w.heap.size, 1, none⟩ = some (.int .i64 v) ∧ w'.cell? ⟨b, off + j * 6 + 5, none⟩ = some (.slice yA yn yc) ∧ w'.cell? ⟨wr.heap.size, 5, none⟩ = some (.slice xA xn xc)) (go_keep) ((go_at_call 51; refine (K1.out _ (HB.out.alloc HB.out.size _).drew).mono ?_; rintro e wq ⟨v1, rfl, hown, bq⟩; obtain ⟨A1, cap1, rfl, _⟩ := Vw.Ints.of_own hown; replace d0 := Kit.cell_below bq d0; replace d1 := Kit.cell_below bq d1; replace d2 := Kit.cell_below bq d2; replace d3 := Kit.cell_below bq d3; have B1 := Lib.hid ((HB.out.alloc HB.out.size _).drew.trans (bq.mono (HB.out.alloc HB.out.size _).drew.size)); clear bq hown))
     clear sw sw2 sw3 sw4
     go_wp2_with fail
     go_ret2
     exact ⟨by rw [HR.out]; rfl, B1.out⟩
  ·obtain rfl : k = len := by omega
   have HR := Lib.hid (Sy.leaves_miss (c := c) (v := v) (l := l) (fun j hj => HA.out j (by rw [HLL.out] at hj; omega)))
   skip
   go_wp2_with fail
   go_ret2
   exact ⟨by rw [HR.out]; rfl, HB.out⟩
def Sy.Told (n : Nat) (c v : Int) (l : List Lk) (w : World) (e : Ending) (w' : World) : Prop := ∃ a, Sy.IsAt n c v l a ∧ e = .returned (Sy.thereV l a) ∧ Below w.heap.size w w'
set_option maxHeartbeats 8000000 in
theorem Sy.there_calls (n : Nat) (c v : Int) (A : Option Addr) (len cap : Nat) (l : List Lk) (w : World) (hl : Looks w A len l) (hm : Sy.May n l) (hxn : ∀ x ∈ l, x.n ≤ 1000000) :
  Calls Tryz.prog 23 #[.int .i64 (n : Int), .agg #[.int .i64 c, .int .i64 v], .slice A len cap] w (Sy.Told n c v l w) := by
 have HL := Lib.hid hl
 have HM := Lib.hid hm
 have HXN := Lib.hid hxn
 have hll := hl.len
 have hlen : len ≤ 60 := by have := hm.most; omega
 have HLL := Lib.hid hll
 have hn3 := hm.lo
 have hn8 := hm.hi
 clear hl hm hll hxn
 go_enter Tryz.func23, Tryz.ntmps23
 go_wp2_with fail
 go_loopw [8, 9, 10, 11, 12] (fun va vl vi _ _ wr => ∃ (k : Nat) (q : Int), k ≤ len ∧ va = .int .i64 k ∧ vi = .int .i64 ((k : Int) - 1) ∧ vl = .int .i64 q ∧ Hid ((k = len → q = -1) ∧ (k < len → 0 ≤ q ∧ Sy.slotAt c v l k = some q)) ∧ wr.cell? ⟨w.heap.size, 0, none⟩ = some (.int .i64 c) ∧ wr.cell? ⟨w.heap.size, 1, none⟩ = some (.int .i64 v) ∧ Hid (Below w.heap.size w wr) ∧ Hid (∀ (j : Nat), k ≤ j → j < len → Sy.Good n c v l j)) (fun _ _ vi _ _ _ => (intOf vi + 1).toNat)
 case atStart => exact ⟨len, -1, Nat.le_refl _, rfl, rfl, rfl, Lib.hid ⟨fun _ => rfl, fun h => absurd h (by omega)⟩, by go_simp, by go_simp, Lib.hid (Kit.alloc1 ..), Lib.hid (fun j h1 h2 => absurd h2 (by omega))⟩
 case round =>
  obtain ⟨k, q, hk, rfl, rfl, rfl, HQ, c0, c1, HB, HG⟩ := hrel
  have hws := World.block_lt_of_cell? wr ⟨w.heap.size, 0, none⟩ c0
  by_cases h0 : k = 0
  ·subst h0
   have HAt : Hid (Sy.IsAt n c v l 0) := Lib.hid ⟨Nat.zero_le _, fun i _ hi => HG.out i (Nat.zero_le _) (by rw [HLL.out] at hi; exact hi), fun h => absurd h (by omega)⟩
   have hd : decide ((0 : Int) ≤ ((0 : Nat) : Int) - 1) = false := by decide
   by_cases hz : len = 0
   ·subst hz
    have HV : Hid (Sy.thereV l 0 = .tuple #[.int .i64 0, .bool false]) := Lib.hid (by unfold Sy.thereV; rw [HLL.out]; rfl)
    go_wp2_with fail
    go_ret2
    exact ⟨0, HAt.out, by rw [HV.out]; rfl, HB.out⟩
   ·have hz' : ((0 : Int) == (len : Int)) = false := beq_eq_false_iff_ne.2 (by omega)
    have hz2 : 0 < len := by omega
    have HV : Hid (Sy.thereV l 0 = .tuple #[.int .i64 0, .bool true]) := Lib.hid (by unfold Sy.thereV; rw [HLL.out, if_neg (by omega), decide_eq_true (by omega)]; rfl)
    clear hz
    go_wp2_with fail
    go_ret2
    exact ⟨0, HAt.out, by rw [HV.out]; rfl, HB.out⟩
  ·obtain ⟨j, rfl⟩ : ∃ j, k = j + 1 := ⟨k - 1, by omega⟩
   obtain ⟨b, off, rfl, hb, hrow⟩ := HL.out.row (by omega)
   have hjl : j < l.length := by rw [HLL.out]; omega
   obtain ⟨x, hx⟩ : ∃ x, l[j]? = some x := ⟨_, List.getElem?_eq_getElem hjl⟩
   have m5 := (HB.out.cell (p := ⟨b, off + j * 6 + 5, none⟩) hb).trans (hrow j x hx).2.2.2.2.2
   have hth := HL.out.there x (List.mem_of_getElem? hx)
   have hxn := HXN.out x (List.mem_of_getElem? hx)
   have k1 := fun W (hW : Below w.heap.size w W) => Vw.vslot_calls c v x.at_ x.n x.cap x.nodes W (hth.nodes.below hW) hxn
   have k2 := fun W (hW : Below w.heap.size w W) => Vw.vall_calls c v x.at_ x.n x.cap x.nodes W (hth.nodes.below hW) hxn
   have hok : Sy.ok c v (l.getD j default) = ((Vw.slot c v x.nodes).isSome && Vw.all c v x.nodes) := by rw [Sy.getD_of hx]; rfl
   have hsl : Sy.slotAt c v l j = Vw.slot c v x.nodes := Sy.slotAt_of hx
   have hbd : ∀ p, Sy.slotAt c v l j = some p → 0 ≤ p ∧ p < (n : Int) := fun p hp => HM.out.slot hjl hp
   rw [hsl] at hbd
   obtain ⟨xt, ⟨x0k, x0i⟩, ⟨x1k, x1i⟩, xA, xn, xc, xs⟩ := x
   simp only at m5 k1 k2 hok hsl hbd
   have K1 := Lib.hid k1
   have K2 := Lib.hid k2
   have ix0 : (0 : Int) ≤ (j : Int) := by omega
   have ix1 : (j : Int) < (len : Int) := by omega
   have ix2 : j < len := by omega
   have sw : IntKind.i64.wrap ((j : Int) + 1 - 1) = (j : Int) := by rw [show (j : Int) + 1 - 1 = (j : Int) by omega]; exact IntWalk.i64_in _ (by omega)
   have sw2 : IntKind.i64.wrap (j : Int) = (j : Int) := IntWalk.i64_in _ (by omega)
   have SW := Lib.hid (And.intro sw sw2)
   clear hrow hx hth hxn k1 k2 h0 sw sw2
   cases hs : Vw.slot c v xs with
   | none =>
    have HAt : Hid (Sy.IsAt n c v l (j + 1)) := Lib.hid ⟨by rw [HLL.out]; exact hk, fun i h1 h2 => HG.out i h1 (by rw [HLL.out] at h2; exact h2), fun _ hg => by
     have h1 := hg.1
     rw [Nat.add_sub_cancel, hok, hs] at h1
     simp at h1⟩
    rw [hs] at K1
    simp only [Vw.slotV, Option.getD_none, Option.isSome_none] at K1
    clear hok hsl hbd hs
    go_wp2_with fail
    obtain ⟨sw, sw2⟩ := SW.out
    go_region_held3 (fun w' => w'.cell? ⟨w.heap.size, 0, none⟩ = some (.int .i64 c) ∧ w'.cell? ⟨w.heap.size, 1, none⟩ = some (.int .i64 v) ∧ w'.cell? ⟨b, off + j * 6 + 5, none⟩ = some (.slice xA xn xc)) (go_keep) ((go_at_call 47; refine (K1.out _ HB.out.drew).mono ?_; rintro e wq ⟨rfl, bq⟩; replace c0 := Kit.cell_below bq c0; replace c1 := Kit.cell_below bq c1; replace m5 := Kit.cell_below bq m5; have B1 := Lib.hid (HB.out.drew.trans (bq.mono HB.out.drew.size)); clear bq))
    clear sw sw2
    go_wp2_with fail
    refine wp_region_held_drew (S := (fun w' => w'.cell? ⟨w.heap.size, 0, none⟩ = some (.int .i64 c) ∧ w'.cell? ⟨w.heap.size, 1, none⟩ = some (.int .i64 v) ∧ w'.cell? ⟨b, off + j * 6 + 5, none⟩ = some (.slice xA xn xc))) (by kernel_rfl) ?_ (fun hHeld => ?_)
    ·go_keep
    refine Rgn.tk 0 rfl ?_
    try simp only [Act.put, Rgn.a, Rgn.b, Rgn.c]
    refine Rgn.tk 1 rfl ?_
    try simp only [Act.put, Rgn.a, Rgn.b, Rgn.c]
    refine Rgn.tk 2 rfl ?_
    try simp only [Act.put, Rgn.a, Rgn.b, Rgn.c]
    refine Rgn.sk 3 rfl ?_
    try simp only [Act.put, Rgn.a, Rgn.b, Rgn.c]
    refine Rgn.sk 4 rfl ?_
    try simp only [Act.put, Rgn.a, Rgn.b, Rgn.c]
    refine Rgn.sk 5 rfl ?_
    try simp only [Act.put, Rgn.a, Rgn.b, Rgn.c]
    refine Rgn.sk 6 rfl ?_
    try simp only [Act.put, Rgn.a, Rgn.b, Rgn.c]
    refine Rgn.sk 7 rfl ?_
    try simp only [Act.put, Rgn.a, Rgn.b, Rgn.c]
    refine Rgn.sk 8 rfl ?_
    try simp only [Act.put, Rgn.a, Rgn.b, Rgn.c]
    refine Rgn.sk 9 rfl ?_
    try simp only [Act.put, Rgn.a, Rgn.b, Rgn.c]
    refine Rgn.sk 10 rfl ?_
    try simp only [Act.put, Rgn.a, Rgn.b, Rgn.c]
    refine Rgn.tk 11 rfl ?_
    try simp only [Act.put, Rgn.a, Rgn.b, Rgn.c]
    refine Rgn.tk 12 rfl ?_
    try simp only [Act.put, Rgn.a, Rgn.b, Rgn.c]
    refine Rgn.sk 13 rfl ?_
    try simp only [Act.put, Rgn.a, Rgn.b, Rgn.c]
    refine Rgn.sk 14 rfl ?_
    try simp only [Act.put, Rgn.a, Rgn.b, Rgn.c]
    refine Rgn.sk 15 rfl ?_
    try simp only [Act.put, Rgn.a, Rgn.b, Rgn.c]
    refine Rgn.sk 16 rfl ?_
    try simp only [Act.put, Rgn.a, Rgn.b, Rgn.c]
    refine Rgn.sk 17 rfl ?_
    try simp only [Act.put, Rgn.a, Rgn.b, Rgn.c]
    refine Rgn.sk 18 rfl ?_
    try simp only [Act.put, Rgn.a, Rgn.b, Rgn.c]
    refine Rgn.sk 19 rfl ?_
    try simp only [Act.put, Rgn.a, Rgn.b, Rgn.c]
    refine Rgn.sk 20 rfl ?_
    try simp only [Act.put, Rgn.a, Rgn.b, Rgn.c]
    refine Rgn.sk 21 rfl ?_
    try simp only [Act.put, Rgn.a, Rgn.b, Rgn.c]
    refine Rgn.tk 22 rfl ?_
    try simp only [Act.put, Rgn.a, Rgn.b, Rgn.c]
    refine wpAnyH_done (by kernel_rfl) ?_ _
    have B1 := Lib.hid B1.out.drew
    by_cases hz : j + 1 = len
    ·have hz' : ((j : Int) + 1 == (len : Int)) = true := beq_iff_eq.2 (by omega)
     have HV : Hid (Sy.thereV l (j + 1) = .tuple #[.int .i64 0, .bool false]) := Lib.hid (by unfold Sy.thereV; rw [HLL.out, if_pos hz, decide_eq_false (by omega)])
     clear hz
     go_wp2_with fail
     go_ret2
     exact ⟨j + 1, HAt.out, by rw [HV.out]; first | done | rfl, B1.out⟩
    ·have hz' : ((j : Int) + 1 == (len : Int)) = false := beq_eq_false_iff_ne.2 (by omega)
     have HV : Hid (Sy.thereV l (j + 1) = .tuple #[.int .i64 ((j : Int) + 1), .bool true]) := Lib.hid (by unfold Sy.thereV; rw [HLL.out, if_neg hz, decide_eq_true hz]; rfl)
     go_wp2_with fail
     go_ret2
     exact ⟨j + 1, HAt.out, by rw [HV.out]; first | done | rfl, B1.out⟩
   | some p =>
    obtain ⟨hp0, hp1⟩ := hbd p hs
    rw [hs] at K1
    simp only [Vw.slotV, Option.getD_some, Option.isSome_some] at K1
    cases ha : Vw.all c v xs with
    | false =>
     have HAt : Hid (Sy.IsAt n c v l (j + 1)) := Lib.hid ⟨by rw [HLL.out]; exact hk, fun i h1 h2 => HG.out i h1 (by rw [HLL.out] at h2; exact h2), fun _ hg => by
      have h1 := hg.1
      rw [Nat.add_sub_cancel, hok, hs, ha] at h1
      simp at h1⟩
     rw [ha] at K2
     clear hok hsl hbd hs ha
     go_wp2_with fail
     obtain ⟨sw, sw2⟩ := SW.out
     go_region_held3 (fun w' => w'.cell? ⟨w.heap.size, 0, none⟩ = some (.int .i64 c) ∧ w'.cell? ⟨w.heap.size, 1, none⟩ = some (.int .i64 v) ∧ w'.cell? ⟨b, off + j * 6 + 5, none⟩ = some (.slice xA xn xc)) (go_keep) ((go_at_call 47; refine (K1.out _ HB.out.drew).mono ?_; rintro e wq ⟨rfl, bq⟩; replace c0 := Kit.cell_below bq c0; replace c1 := Kit.cell_below bq c1; replace m5 := Kit.cell_below bq m5; have B1 := Lib.hid (HB.out.drew.trans (bq.mono HB.out.drew.size)); clear bq))
     go_wp2_with fail
     refine wp_region_held_drew (S := (fun w' => w'.cell? ⟨w.heap.size, 0, none⟩ = some (.int .i64 c) ∧ w'.cell? ⟨w.heap.size, 1, none⟩ = some (.int .i64 v) ∧ w'.cell? ⟨b, off + j * 6 + 5, none⟩ = some (.slice xA xn xc))) (by kernel_rfl) ?_ (fun hHeld => ?_)
     ·go_keep
     refine Rgn.tk 0 rfl ?_
     try simp only [Act.put, Rgn.a, Rgn.b, Rgn.c]
     refine Rgn.tk 1 rfl ?_
     try simp only [Act.put, Rgn.a, Rgn.b, Rgn.c]
     refine Rgn.tk 2 rfl ?_
     try simp only [Act.put, Rgn.a, Rgn.b, Rgn.c]
     refine Rgn.tk 3 rfl ?_
     try simp only [Act.put, Rgn.a, Rgn.b, Rgn.c]
     refine Rgn.tk 4 rfl ?_
     try simp only [Act.put, Rgn.a, Rgn.b, Rgn.c]
     refine Rgn.tk 5 rfl ?_
     try simp only [Act.put, Rgn.a, Rgn.b, Rgn.c]
     refine Rgn.tk 6 rfl ?_
     try simp only [Act.put, Rgn.a, Rgn.b, Rgn.c]
     refine Rgn.tk 7 rfl ?_
     try simp only [Act.put, Rgn.a, Rgn.b, Rgn.c]
     refine Rgn.tk 8 rfl ?_
     try simp only [Act.put, Rgn.a, Rgn.b, Rgn.c]
     refine Rgn.one 9 rfl (by kernel_rfl) (fun K hK => ?_)
     go_simp
     refine (K2.out _ B1.out.drew).mono ?_
     rintro e wp ⟨rfl, bp⟩
     replace c0 := Kit.cell_below bp c0
     replace c1 := Kit.cell_below bp c1
     replace m5 := Kit.cell_below bp m5
     have B2 := Lib.hid (B1.out.drew.trans (bp.mono B1.out.drew.size))
     clear bp
     go_simp
     refine hK.out _ _ ?_ (fun hHeld => ?_)
     ·go_keep
     clear hK K
     try simp only [Act.put, Rgn.a, Rgn.b, Rgn.c]
     refine Rgn.tk 10 rfl ?_
     try simp only [Act.put, Rgn.a, Rgn.b, Rgn.c]
     refine Rgn.tk 11 rfl ?_
     try simp only [Act.put, Rgn.a, Rgn.b, Rgn.c]
     refine Rgn.tk 12 rfl ?_
     try simp only [Act.put, Rgn.a, Rgn.b, Rgn.c]
     refine Rgn.sk 13 rfl ?_
     try simp only [Act.put, Rgn.a, Rgn.b, Rgn.c]
     refine Rgn.sk 14 rfl ?_
     try simp only [Act.put, Rgn.a, Rgn.b, Rgn.c]
     refine Rgn.sk 15 rfl ?_
     try simp only [Act.put, Rgn.a, Rgn.b, Rgn.c]
     refine Rgn.sk 16 rfl ?_
     try simp only [Act.put, Rgn.a, Rgn.b, Rgn.c]
     refine Rgn.sk 17 rfl ?_
     try simp only [Act.put, Rgn.a, Rgn.b, Rgn.c]
     refine Rgn.sk 18 rfl ?_
     try simp only [Act.put, Rgn.a, Rgn.b, Rgn.c]
     refine Rgn.sk 19 rfl ?_
     try simp only [Act.put, Rgn.a, Rgn.b, Rgn.c]
     refine Rgn.sk 20 rfl ?_
     try simp only [Act.put, Rgn.a, Rgn.b, Rgn.c]
     refine Rgn.sk 21 rfl ?_
     try simp only [Act.put, Rgn.a, Rgn.b, Rgn.c]
     refine Rgn.tk 22 rfl ?_
     try simp only [Act.put, Rgn.a, Rgn.b, Rgn.c]
     refine wpAnyH_done (by kernel_rfl) ?_ _
     clear sw sw2
     by_cases hz : j + 1 = len
     ·have hz' : ((j : Int) + 1 == (len : Int)) = true := beq_iff_eq.2 (by omega)
      have HV : Hid (Sy.thereV l (j + 1) = .tuple #[.int .i64 0, .bool false]) := Lib.hid (by unfold Sy.thereV; rw [HLL.out, if_pos hz, decide_eq_false (by omega)])
      clear hz
      go_wp2_with fail
      go_ret2
      exact ⟨j + 1, HAt.out, by rw [HV.out]; first | done | rfl, B2.out⟩
     ·have hz' : ((j : Int) + 1 == (len : Int)) = false := beq_eq_false_iff_ne.2 (by omega)
      have HV : Hid (Sy.thereV l (j + 1) = .tuple #[.int .i64 ((j : Int) + 1), .bool true]) := Lib.hid (by unfold Sy.thereV; rw [HLL.out, if_neg hz, decide_eq_true hz]; rfl)
      go_wp2_with fail
      go_ret2
      exact ⟨j + 1, HAt.out, by rw [HV.out]; first | done | rfl, B2.out⟩
    | true =>
     rw [ha] at K2
     by_cases hkl : j + 1 = len
     ·obtain rfl := HQ.out.1 hkl
      have HG2 : Hid (∀ (i : Nat), j ≤ i → i < len → Sy.Good n c v l i) := Lib.hid fun i h1 h2 => by
       obtain rfl : i = j := by omega
       refine ⟨by rw [hok, hs, ha]; rfl, fun h3 => absurd h3 (by rw [HLL.out]; omega)⟩
      have HQ2 : Hid ((j = len → p = -1) ∧ (j < len → 0 ≤ p ∧ Sy.slotAt c v l j = some p)) := Lib.hid ⟨fun h => absurd h (by omega), fun _ => ⟨hp0, by rw [hsl, hs]⟩⟩
      clear hok hsl hbd hs ha hkl
      go_wp2_with fail
      obtain ⟨sw, sw2⟩ := SW.out
      go_region_held3 (fun w' => w'.cell? ⟨w.heap.size, 0, none⟩ = some (.int .i64 c) ∧ w'.cell? ⟨w.heap.size, 1, none⟩ = some (.int .i64 v) ∧ w'.cell? ⟨b, off + j * 6 + 5, none⟩ = some (.slice xA xn xc)) (go_keep) ((go_at_call 47; refine (K1.out _ HB.out.drew).mono ?_; rintro e wq ⟨rfl, bq⟩; replace c0 := Kit.cell_below bq c0; replace c1 := Kit.cell_below bq c1; replace m5 := Kit.cell_below bq m5; have B1 := Lib.hid (HB.out.drew.trans (bq.mono HB.out.drew.size)); clear bq))
      go_wp2_with fail
      refine wp_region_held_drew (S := (fun w' => w'.cell? ⟨w.heap.size, 0, none⟩ = some (.int .i64 c) ∧ w'.cell? ⟨w.heap.size, 1, none⟩ = some (.int .i64 v) ∧ w'.cell? ⟨b, off + j * 6 + 5, none⟩ = some (.slice xA xn xc))) (by kernel_rfl) ?_ (fun hHeld => ?_)
      ·go_keep
      refine Rgn.tk 0 rfl ?_
      try simp only [Act.put, Rgn.a, Rgn.b, Rgn.c]
      refine Rgn.tk 1 rfl ?_
      try simp only [Act.put, Rgn.a, Rgn.b, Rgn.c]
      refine Rgn.tk 2 rfl ?_
      try simp only [Act.put, Rgn.a, Rgn.b, Rgn.c]
      refine Rgn.tk 3 rfl ?_
      try simp only [Act.put, Rgn.a, Rgn.b, Rgn.c]
      refine Rgn.tk 4 rfl ?_
      try simp only [Act.put, Rgn.a, Rgn.b, Rgn.c]
      refine Rgn.tk 5 rfl ?_
      try simp only [Act.put, Rgn.a, Rgn.b, Rgn.c]
      refine Rgn.tk 6 rfl ?_
      try simp only [Act.put, Rgn.a, Rgn.b, Rgn.c]
      refine Rgn.tk 7 rfl ?_
      try simp only [Act.put, Rgn.a, Rgn.b, Rgn.c]
      refine Rgn.tk 8 rfl ?_
      try simp only [Act.put, Rgn.a, Rgn.b, Rgn.c]
      refine Rgn.one 9 rfl (by kernel_rfl) (fun K hK => ?_)
      go_simp
      refine (K2.out _ B1.out.drew).mono ?_
      rintro e wp ⟨rfl, bp⟩
      replace c0 := Kit.cell_below bp c0
      replace c1 := Kit.cell_below bp c1
      replace m5 := Kit.cell_below bp m5
      have B2 := Lib.hid (B1.out.drew.trans (bp.mono B1.out.drew.size))
      clear bp
      go_simp
      refine hK.out _ _ ?_ (fun hHeld => ?_)
      ·go_keep
      clear hK K
      try simp only [Act.put, Rgn.a, Rgn.b, Rgn.c]
      refine Rgn.tk 10 rfl ?_
      try simp only [Act.put, Rgn.a, Rgn.b, Rgn.c]
      refine Rgn.tk 11 rfl ?_
      try simp only [Act.put, Rgn.a, Rgn.b, Rgn.c]
      refine Rgn.tk 12 rfl ?_
      try simp only [Act.put, Rgn.a, Rgn.b, Rgn.c]
      refine Rgn.tk 13 rfl ?_
      try simp only [Act.put, Rgn.a, Rgn.b, Rgn.c]
      refine Rgn.tk 14 rfl ?_
      try simp only [Act.put, Rgn.a, Rgn.b, Rgn.c]
      refine Rgn.tk 15 rfl ?_
      try simp only [Act.put, Rgn.a, Rgn.b, Rgn.c]
      refine Rgn.sk 16 rfl ?_
      try simp only [Act.put, Rgn.a, Rgn.b, Rgn.c]
      refine Rgn.sk 17 rfl ?_
      try simp only [Act.put, Rgn.a, Rgn.b, Rgn.c]
      refine Rgn.sk 18 rfl ?_
      try simp only [Act.put, Rgn.a, Rgn.b, Rgn.c]
      refine Rgn.sk 19 rfl ?_
      try simp only [Act.put, Rgn.a, Rgn.b, Rgn.c]
      refine Rgn.sk 20 rfl ?_
      try simp only [Act.put, Rgn.a, Rgn.b, Rgn.c]
      refine Rgn.tk 21 rfl ?_
      try simp only [Act.put, Rgn.a, Rgn.b, Rgn.c]
      refine Rgn.tk 22 rfl ?_
      try simp only [Act.put, Rgn.a, Rgn.b, Rgn.c]
      refine wpAnyH_done (by kernel_rfl) ?_ _
      clear sw sw2
      go_wp2_with fail
      go_roundw
      case rel => exact ⟨j, p, by omega, by go_num, by go_num, rfl, HQ2, c0, c1, B2, HG2⟩
      case measure => first | (simp [intOf]; done) | (simp [intOf]; omega)
     ·obtain ⟨hq0, hq1⟩ := HQ.out.2 (by omega)
      have kn := fun W => Sy.next_calls (n : Int) p W (by omega) (by omega) ⟨hp0, hp1⟩
      by_cases hq : q = Wm.nx n p
      ·have HG2 : Hid (∀ (i : Nat), j ≤ i → i < len → Sy.Good n c v l i) := Lib.hid fun i h1 h2 => by
        by_cases e : i = j
        ·subst e
         refine ⟨by rw [hok, hs, ha]; rfl, fun h3 p' hp' => ?_⟩
         rw [hsl, hs] at hp'
         injection hp' with hp'
         rw [hq1, hq, hp']
        ·exact HG.out i (by omega) h2
       have HQ2 : Hid ((j = len → p = -1) ∧ (j < len → 0 ≤ p ∧ Sy.slotAt c v l j = some p)) := Lib.hid ⟨fun h => absurd h (by omega), fun _ => ⟨hp0, by rw [hsl, hs]⟩⟩
       have g1 : decide (0 ≤ q) = true := decide_eq_true hq0
       have g2 : (q != Wm.nx n p) = false := by rw [bne_eq_false_iff_eq]; exact hq
       clear hok hsl hbd hs ha hkl hq0 hq1 hq
       generalize Wm.nx n p = r at *
       go_wp2_with fail
       obtain ⟨sw, sw2⟩ := SW.out
       go_region_held3 (fun w' => w'.cell? ⟨w.heap.size, 0, none⟩ = some (.int .i64 c) ∧ w'.cell? ⟨w.heap.size, 1, none⟩ = some (.int .i64 v) ∧ w'.cell? ⟨b, off + j * 6 + 5, none⟩ = some (.slice xA xn xc)) (go_keep) ((go_at_call 47; refine (K1.out _ HB.out.drew).mono ?_; rintro e wq ⟨rfl, bq⟩; replace c0 := Kit.cell_below bq c0; replace c1 := Kit.cell_below bq c1; replace m5 := Kit.cell_below bq m5; have B1 := Lib.hid (HB.out.drew.trans (bq.mono HB.out.drew.size)); clear bq))
       go_wp2_with fail
       go_region_held3 (fun w' => w'.cell? ⟨w.heap.size, 0, none⟩ = some (.int .i64 c) ∧ w'.cell? ⟨w.heap.size, 1, none⟩ = some (.int .i64 v) ∧ w'.cell? ⟨b, off + j * 6 + 5, none⟩ = some (.slice xA xn xc)) (go_keep) (first | (go_at_call 48; refine (K2.out _ B1.out.drew).mono ?_; rintro e wp ⟨rfl, bp⟩; replace c0 := Kit.cell_below bp c0; replace c1 := Kit.cell_below bp c1; replace m5 := Kit.cell_below bp m5; have B2 := Lib.hid (B1.out.drew.trans (bp.mono B1.out.drew.size)); clear bp) | (go_at_call 49; refine (kn _).mono ?_; rintro e wn ⟨rfl, rfl⟩))
       clear sw sw2
       go_wp2_with fail
       go_roundw
       case rel => exact ⟨j, p, by omega, by go_num, by go_num, rfl, HQ2, c0, c1, B2, HG2⟩
       case measure => first | (simp [intOf]; done) | (simp [intOf]; omega)
      ·have HAt : Hid (Sy.IsAt n c v l (j + 1)) := Lib.hid ⟨by rw [HLL.out]; exact hk, fun i h1 h2 => HG.out i h1 (by rw [HLL.out] at h2; exact h2), fun _ hg => by
        have h1 := hg.2 (by rw [HLL.out]; omega) p (by rw [Nat.add_sub_cancel, hsl, hs])
        rw [Nat.add_sub_cancel, hq1] at h1
        injection h1 with h1
        exact hq h1⟩
       have g1 : decide (0 ≤ q) = true := decide_eq_true hq0
       have g2 : (q != Wm.nx n p) = true := by rw [bne_iff_ne]; exact hq
       clear hok hsl hbd hs ha hq0 hq1 hq
       generalize Wm.nx n p = r at *
       go_wp2_with fail
       obtain ⟨sw, sw2⟩ := SW.out
       go_region_held3 (fun w' => w'.cell? ⟨w.heap.size, 0, none⟩ = some (.int .i64 c) ∧ w'.cell? ⟨w.heap.size, 1, none⟩ = some (.int .i64 v) ∧ w'.cell? ⟨b, off + j * 6 + 5, none⟩ = some (.slice xA xn xc)) (go_keep) ((go_at_call 47; refine (K1.out _ HB.out.drew).mono ?_; rintro e wq ⟨rfl, bq⟩; replace c0 := Kit.cell_below bq c0; replace c1 := Kit.cell_below bq c1; replace m5 := Kit.cell_below bq m5; have B1 := Lib.hid (HB.out.drew.trans (bq.mono HB.out.drew.size)); clear bq))
       go_wp2_with fail
       go_region_held3 (fun w' => w'.cell? ⟨w.heap.size, 0, none⟩ = some (.int .i64 c) ∧ w'.cell? ⟨w.heap.size, 1, none⟩ = some (.int .i64 v) ∧ w'.cell? ⟨b, off + j * 6 + 5, none⟩ = some (.slice xA xn xc)) (go_keep) (first | (go_at_call 48; refine (K2.out _ B1.out.drew).mono ?_; rintro e wp ⟨rfl, bp⟩; replace c0 := Kit.cell_below bp c0; replace c1 := Kit.cell_below bp c1; replace m5 := Kit.cell_below bp m5; have B2 := Lib.hid (B1.out.drew.trans (bp.mono B1.out.drew.size)); clear bp) | (go_at_call 49; refine (kn _).mono ?_; rintro e wn ⟨rfl, rfl⟩))
       clear sw sw2
       have hz : ¬ j + 1 = len := by omega
       have hz' : ((j : Int) + 1 == (len : Int)) = false := beq_eq_false_iff_ne.2 (by omega)
       have hz'' : (j + 1 == len) = false := beq_eq_false_iff_ne.2 (by omega)
       have HV : Hid (Sy.thereV l (j + 1) = .tuple #[.int .i64 ((j : Int) + 1), .bool true]) := Lib.hid (by unfold Sy.thereV; rw [HLL.out, if_neg (by omega), decide_eq_true (by omega)]; rfl)
       go_wp2_with fail
       go_ret2
       exact ⟨j + 1, HAt.out, by rw [HV.out]; first | done | rfl, B2.out⟩
end Go.Proofs.YtgiojagdmglinaaGreatDoor
