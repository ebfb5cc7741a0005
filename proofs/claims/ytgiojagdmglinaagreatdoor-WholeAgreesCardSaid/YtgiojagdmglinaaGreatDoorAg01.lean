/-
  WholeAgrees holds: any two correct nodes that are Active have one slot behind each tick, and who is Active never leaves.
  Conditions: none but those which the given statement itself asks (its tied card); the lemmas stand in the texts ahead of this one.
-/
import Derived.Test.YtgiojagdmglinaaGreatDoorAg00
import Derived.Test.YtgiojagdmglinaaGreatDoorGb00
import Derived.Test.YtgiojagdmglinaaGreatDoorProg
import Derived.BigRegion
import Derived.IntWalk
import Derived.Deep.QuietTactic
import Derived.BigQuiet
import Derived.Test.YtgiojagdmglinaaGreatDoorGb34
import Derived.Test.YtgiojagdmglinaaGreatDoorGb36
import Derived.Test.YtgiojagdmglinaaGreatDoorRows
import Derived.Test.YtgiojagdmglinaaGreatDoorCards
import Derived.Test.YtgiojagdmglinaaGreatDoorTie
import Derived.ProofKit
import Derived.OpenShut
import Derived.LaidMore
import Derived.Stop.Joined
import Derived.SevenTiedAt
import Derived.ShutString
set_option linter.unusedVariables false
set_option linter.unusedSimpArgs false
set_option maxRecDepth 100000
namespace Go.Proofs.YtgiojagdmglinaaGreatDoor
open Go.RowKit
set_option maxHeartbeats 4000000 in
theorem Sy.rleaves_calls (c v : Int) (A : Option Addr) (len cap : Nat) (l : List Lk) (w : World) (hl : Looks w A len l) (hlen : len ≤ 1000000) (hm : ∀ x ∈ l, x.n ≤ 1000000) :
  Calls Tryz.prog 27 #[.agg #[.int .i64 c, .int .i64 v], .slice A len cap] w fun e w' => e = .returned (Sy.firstV (Sy.leaves c v l)) ∧ Below w.heap.size w w' := by
 have HL := Lib.hid hl
 have HM := Lib.hid hm
 have hll := hl.len
 have HLL := Lib.hid hll
 clear hl hm hll
 go_enter Tryz.func27, Tryz.ntmps27
 go_wp2_with fail
 go_loopw [6] (fun vi wr => ∃ k : Nat, (k ≤ len + 1 ∧ 1 ≤ k) ∧ vi = .int .i64 k ∧ wr.cell? ⟨w.heap.size, 0, none⟩ = some (.int .i64 c) ∧ wr.cell? ⟨w.heap.size, 1, none⟩ = some (.int .i64 v) ∧ Hid (Below w.heap.size w wr) ∧ Hid (∀ (j : Nat), j < k → Sy.leftAt c v l j = false)) (fun vi _ => len + 1 - (intOf vi).toNat)
 case atStart => exact ⟨1, ⟨by omega, by omega⟩, rfl, by go_simp, by go_simp, Lib.hid (Kit.alloc1 ..), Lib.hid (fun j h => (by have h0 : j = 0 := (by omega); subst h0; rfl))⟩
 case round =>
  obtain ⟨k, hk, rfl, c0, c1, HB, HA⟩ := hrel
  have hws := World.block_lt_of_cell? wr ⟨w.heap.size, 0, none⟩ c0
  by_cases hlt : k < len
  ·obtain ⟨b, off, rfl, hb, hrow⟩ := HL.out.row (by omega)
   have hkl : k < l.length := by rw [HLL.out]; exact hlt
   obtain ⟨x, hx⟩ : ∃ x, l[k]? = some x := ⟨_, List.getElem?_eq_getElem hkl⟩
   obtain ⟨r0, r1, r2, r3, r4, r5⟩ := hrow k x hx
   have m5 := (HB.out.cell (p := ⟨b, off + k * 6 + 5, none⟩) hb).trans r5
   have hnx := Sy.nodesAt_of hx
   have hth := HL.out.there x (List.mem_of_getElem? hx)
   have hxn := HM.out x (List.mem_of_getElem? hx)
   obtain ⟨j, rfl⟩ : ∃ j, k = j + 1 := ⟨k - 1, by omega⟩
   obtain ⟨y, hy⟩ : ∃ y, l[j]? = some y := ⟨_, List.getElem?_eq_getElem (by omega)⟩
   have n5 := (HB.out.cell (p := ⟨b, off + j * 6 + 5, none⟩) hb).trans (hrow j y hy).2.2.2.2.2
   have hny := Sy.nodesAt_of hy
   have hty := HL.out.there y (List.mem_of_getElem? hy)
   have hyn := HM.out y (List.mem_of_getElem? hy)
   have k1 := fun W (hW : Below w.heap.size w W) => Vw.rchanged_calls c v y.at_ x.at_ y.n y.cap x.n x.cap y.nodes x.nodes W (hty.nodes.below hW) (hth.nodes.below hW) hyn hxn
   have hla : Sy.leftAt c v l (j + 1) = !(Vw.changed c v y.nodes x.nodes).isEmpty := by
    unfold Sy.leftAt
    rw [decide_eq_true (by omega), Nat.add_sub_cancel, hnx, hny]
    rfl
   have hae : (Vw.changed c v y.nodes x.nodes).isEmpty = decide ((Vw.changed c v y.nodes x.nodes).length = 0) := by cases Vw.changed c v y.nodes x.nodes <;> simp
   have hcl : (Vw.changed c v y.nodes x.nodes).length ≤ 1000000 := by
    have h1 := Vw.places_len c v (fun i z => Vw.act i z && (decide (x.nodes.length ≤ i) || !Vw.act i (x.nodes.getD i Nd.zero))) y.nodes y.nodes.length
    have h2 := hty.nodes.len
    unfold Vw.changed
    omega
   rw [hae] at hla
   have HLA := Lib.hid hla
   have K1 := Lib.hid k1
   clear r0 r1 r2 r3 r4 r5 hrow hx hnx hth hxn hy hny hty hyn k1 hla hae
   obtain ⟨xt, ⟨x0k, x0i⟩, ⟨x1k, x1i⟩, xA, xn, xc, xs⟩ := x
   obtain ⟨yt, ⟨y0k, y0i⟩, ⟨y1k, y1i⟩, yA, yn, yc, ys⟩ := y
   simp only at m5 n5 hcl
   have sw : IntKind.i64.wrap ((j : Int) + 1 - 1) = (j : Int) := by rw [show (j : Int) + 1 - 1 = (j : Int) by omega]; exact IntWalk.i64_in _ (by omega)
   have sw2 : IntKind.i64.wrap (j : Int) = (j : Int) := IntWalk.i64_in _ (by omega)
   have ix0 : (0 : Int) ≤ (j : Int) := by omega
   have ix1 : (j : Int) < (len : Int) := by omega
   have ix2 : (0 : Int) ≤ (j : Int) + 1 := by omega
   have ix3 : (j : Int) + 1 < (len : Int) := by omega
   have sw3 : IntKind.i64.wrap ((j : Int) + 1) = (j : Int) + 1 := IntWalk.i64_in _ (by omega)
   have sw4 : ((j : Int) + 1).toNat = j + 1 := by omega
   have SW := Lib.hid (And.intro sw (And.intro sw2 (And.intro sw3 sw4)))
   clear sw sw2 sw3 sw4
   simp only at K1
   unfold Vw.Row at K1
   by_cases h0 : (Vw.changed c v ys xs).length = 0
   ·have hp : Sy.leftAt c v l (j + 1) = false := by rw [HLA.out, decide_eq_true h0]; rfl
    have HA2 : Hid (∀ (i : Nat), i < j + 1 + 1 → Sy.leftAt c v l i = false) := Lib.hid (fun i hi => by
     by_cases e : i = j + 1
     ·rw [e]; exact hp
     ·exact HA.out i (by omega))
    clear hp
    rw [h0] at K1
    go_wp2_with fail
    obtain ⟨sw, sw2, sw3, sw4⟩ := SW.out
    have d0 := c0
    have d1 := c1
    have d2 := n5
    have d3 := m5
    go_region_held3 (fun w' => w'.cell? ⟨w.heap.size, 0, none⟩ = some (.int .i64 c) ∧ w'.cell? ⟨w.heap.size, 1, none⟩ = some (.int .i64 v) ∧ w'.cell? ⟨b, off + j * 6 + 5, none⟩ = some (.slice yA yn yc) ∧ w'.cell? ⟨b, off + (j + 1) * 6 + 5, none⟩ = some (.slice xA xn xc)) (go_keep) ((go_at_call 53; refine (K1.out _ HB.out.drew).mono ?_; rintro e wq ⟨v1, rfl, hown, bq⟩; have hf : ∃ A1 c1, v1 = .slice A1 0 c1 := (by rcases hown.2 with ⟨rfl, _⟩ | ⟨g, cp, cur, rfl, _⟩ <;> exact ⟨_, _, rfl⟩); obtain ⟨A1, cap1, rfl⟩ := hf; replace d0 := Kit.cell_below bq d0; replace d1 := Kit.cell_below bq d1; replace d2 := Kit.cell_below bq d2; replace d3 := Kit.cell_below bq d3; have B1 := Lib.hid (HB.out.drew.trans (bq.mono HB.out.drew.size)); clear bq hown))
    clear sw sw2 sw3 sw4
    go_wp2_with fail
    go_roundw
    case rel => exact ⟨j + 1 + 1, ⟨by omega, by omega⟩, by go_num, d0, d1, B1, HA2⟩
    case measure => simp [intOf]; omega
   ·have hp : Sy.leftAt c v l (j + 1) = true := by rw [HLA.out, decide_eq_false h0]; rfl
    have HR := Lib.hid (Sy.leaves_hit (by rw [HLL.out]; exact hlt) hp HA.out)
    have h0p : 0 < (Vw.changed c v ys xs).length := by omega
    clear hp h0
    go_wp2_with fail
    obtain ⟨sw, sw2, sw3, sw4⟩ := SW.out
    have d0 := c0
    have d1 := c1
    have d2 := n5
    have d3 := m5
    go_region_held3 (fun w' => w'.cell? ⟨w.heap.size, 0, none⟩ = some (.int .i64 c) ∧ w'.cell? ⟨w.heap.size, 1, none⟩ = some (.int .i64 v) ∧ w'.cell? ⟨b, off + j * 6 + 5, none⟩ = some (.slice yA yn yc) ∧ w'.cell? ⟨b, off + (j + 1) * 6 + 5, none⟩ = some (.slice xA xn xc)) (go_keep) ((go_at_call 53; refine (K1.out _ HB.out.drew).mono ?_; rintro e wq ⟨v1, rfl, hown, bq⟩; obtain ⟨A1, cap1, rfl, _⟩ := Vw.Ints.of_own hown; replace d0 := Kit.cell_below bq d0; replace d1 := Kit.cell_below bq d1; replace d2 := Kit.cell_below bq d2; replace d3 := Kit.cell_below bq d3; have B1 := Lib.hid (HB.out.drew.trans (bq.mono HB.out.drew.size)); clear bq hown))
    clear sw sw2 sw3 sw4
    go_wp2_with fail
    go_ret2
    exact ⟨by rw [HR.out]; rfl, B1.out⟩
  ·have hge : len ≤ k := by omega
   have HR := Lib.hid (Sy.leaves_miss (c := c) (v := v) (l := l) (fun j hj => HA.out j (by rw [HLL.out] at hj; omega)))
   skip
   go_wp2_with fail
   go_ret2
   exact ⟨by rw [HR.out]; rfl, HB.out⟩
set_option maxHeartbeats 4000000 in
theorem Sy.rsplit_calls (c v : Int) (A : Option Addr) (len cap : Nat) (l : List Lk) (w : World) (hl : Looks w A len l) (hlen : len ≤ 1000000) (hm : ∀ x ∈ l, x.n ≤ 1000000) :
  Calls Tryz.prog 26 #[.agg #[.int .i64 c, .int .i64 v], .slice A len cap] w fun e w' => e = .returned (Sy.firstV (Sy.split c v l)) ∧ Below w.heap.size w w' := by
 have HL := Lib.hid hl
 have HM := Lib.hid hm
 have hll := hl.len
 have HLL := Lib.hid hll
 clear hl hm hll
 go_enter Tryz.func26, Tryz.ntmps26
 go_wp2_with fail
 go_loopw [6, 7, 8] (fun vi _ _ wr => ∃ k : Nat, k ≤ len ∧ vi = .int .i64 k ∧ wr.cell? ⟨w.heap.size, 0, none⟩ = some (.int .i64 c) ∧ wr.cell? ⟨w.heap.size, 1, none⟩ = some (.int .i64 v) ∧ Hid (Below w.heap.size w wr) ∧ Hid (∀ (j : Nat) (y : Lk), j < k → l[j]? = some y → Sy.parts c v y = false)) (fun vi _ _ _ => len - (intOf vi).toNat)
 case atStart => exact ⟨0, by omega, rfl, by go_simp, by go_simp, Lib.hid (Kit.alloc1 ..), Lib.hid (fun j y h => absurd h (by omega))⟩
 case round =>
  obtain ⟨k, hk, rfl, c0, c1, HB, HA⟩ := hrel
  have hws := World.block_lt_of_cell? wr ⟨w.heap.size, 0, none⟩ c0
  by_cases hlt : k < len
  ·obtain ⟨b, off, rfl, hb, hrow⟩ := HL.out.row (by omega)
   have hkl : k < l.length := by rw [HLL.out]; exact hlt
   obtain ⟨x, hx⟩ : ∃ x, l[k]? = some x := ⟨_, List.getElem?_eq_getElem hkl⟩
   have m5 := (HB.out.cell (p := ⟨b, off + k * 6 + 5, none⟩) hb).trans (hrow k x hx).2.2.2.2.2
   have HX := Lib.hid hx
   have hth := HL.out.there x (List.mem_of_getElem? hx)
   have hxn := HM.out x (List.mem_of_getElem? hx)
   have k1 := fun W (hW : Below w.heap.size w W) => Vw.rslot_calls c v x.at_ x.n x.cap x.nodes W (hth.nodes.below hW) hxn
   have k2 := fun W (hW : Below w.heap.size w W) => Vw.ractive_calls c v x.at_ x.n x.cap x.nodes W (hth.nodes.below hW) hxn
   have hps : Sy.parts c v x = ((!(Vw.active c v x.nodes).isEmpty) && (Vw.slot c v x.nodes).isNone) := rfl
   have hal : (Vw.active c v x.nodes).length ≤ 1000000 := by
    have h1 := Vw.places_len c v Vw.act x.nodes x.nodes.length
    have h2 := hth.nodes.len
    unfold Vw.active
    omega
   have hae : (Vw.active c v x.nodes).isEmpty = decide ((Vw.active c v x.nodes).length = 0) := by cases Vw.active c v x.nodes <;> simp
   rw [hae] at hps
   have K1 := Lib.hid k1
   have K2 := Lib.hid k2
   have ix0 : (0 : Int) ≤ (k : Int) := by omega
   have ix1 : (k : Int) < (len : Int) := by omega
   clear hrow hx hth hxn k1 hae k2
   obtain ⟨xt, ⟨x0k, x0i⟩, ⟨x1k, x1i⟩, xA, xn, xc, xs⟩ := x
   simp only at m5 hps hal K1 K2
   have HPS := Lib.hid hps
   clear hps
   unfold Vw.Row at K2
   cases hs : Vw.slot c v xs with
   | some q =>
    have hp : Sy.parts c v ⟨xt, ⟨x0k, x0i⟩, ⟨x1k, x1i⟩, xA, xn, xc, xs⟩ = false := by rw [HPS.out, hs]; simp
    have HA2 : Hid (∀ (j : Nat) (y : Lk), j < k + 1 → l[j]? = some y → Sy.parts c v y = false) := Lib.hid (fun j y hj hy => by
     by_cases e : j = k
     ·subst e; rw [HX.out] at hy; injection hy with hy; rw [← hy]; exact hp
     ·exact HA.out j y (by omega) hy)
    rw [hs] at K1
    simp only [Vw.slotV, Option.getD_some, Option.isSome_some] at K1
    clear hp hs
    go_wp2_with fail
    refine wp_region_held_drew (S := (fun w' => w'.cell? ⟨w.heap.size, 0, none⟩ = some (.int .i64 c) ∧ w'.cell? ⟨w.heap.size, 1, none⟩ = some (.int .i64 v) ∧ w'.cell? ⟨b, off + k * 6 + 5, none⟩ = some (.slice xA xn xc))) (by kernel_rfl) ?_ (fun hHeld => ?_)
    ·go_keep
    refine Rgn.tk 0 rfl ?_
    try simp only [Act.put, Rgn.a, Rgn.b, Rgn.c]
    refine Rgn.tk 1 rfl ?_
    try simp only [Act.put, Rgn.a, Rgn.b, Rgn.c]
    refine Rgn.tk 2 rfl ?_
    try simp only [Act.put, Rgn.a, Rgn.b, Rgn.c]
    refine Rgn.tk 3 rfl ?_
    try simp only [Act.put, Rgn.a, Rgn.b, Rgn.c]
    refine Rgn.tk 4 rfl ?_
    try simp only [Act.put, Rgn.a, Rgn.b, Rgn.c]
    refine Rgn.tk 5 rfl ?_
    try simp only [Act.put, Rgn.a, Rgn.b, Rgn.c]
    refine Rgn.one 6 rfl (by kernel_rfl) (fun K hK => ?_)
    go_simp
    refine (K1.out _ HB.out.drew).mono ?_
    rintro e wq ⟨rfl, bq⟩
    replace c0 := Kit.cell_below bq c0
    replace c1 := Kit.cell_below bq c1
    replace m5 := Kit.cell_below bq m5
    have B1 := Lib.hid (HB.out.drew.trans (bq.mono HB.out.drew.size))
    clear bq
    go_simp
    refine hK.out _ _ ?_ (fun hHeld => ?_)
    ·go_keep
    clear hK K
    try simp only [Act.put, Rgn.a, Rgn.b, Rgn.c]
    refine Rgn.tk 7 rfl ?_
    try simp only [Act.put, Rgn.a, Rgn.b, Rgn.c]
    refine Rgn.tk 8 rfl ?_
    try simp only [Act.put, Rgn.a, Rgn.b, Rgn.c]
    refine Rgn.tk 9 rfl ?_
    try simp only [Act.put, Rgn.a, Rgn.b, Rgn.c]
    refine Rgn.tk 10 rfl ?_
    try simp only [Act.put, Rgn.a, Rgn.b, Rgn.c]
    refine Rgn.tk 11 rfl ?_
    try simp only [Act.put, Rgn.a, Rgn.b, Rgn.c]
    refine wpAnyH_done (by kernel_rfl) ?_ _
    go_wp2_with fail
    refine wp_region_held_drew (S := (fun w' => w'.cell? ⟨w.heap.size, 0, none⟩ = some (.int .i64 c) ∧ w'.cell? ⟨w.heap.size, 1, none⟩ = some (.int .i64 v) ∧ w'.cell? ⟨b, off + k * 6 + 5, none⟩ = some (.slice xA xn xc))) (by kernel_rfl) ?_ (fun hHeld => ?_)
    ·go_keep
    refine Rgn.tk 0 rfl ?_
    try simp only [Act.put, Rgn.a, Rgn.b, Rgn.c]
    refine Rgn.tk 1 rfl ?_
    try simp only [Act.put, Rgn.a, Rgn.b, Rgn.c]
    refine Rgn.tk 2 rfl ?_
    try simp only [Act.put, Rgn.a, Rgn.b, Rgn.c]
    refine Rgn.sk 3 rfl ?_
    try simp only [Act.put, Rgn.a, Rgn.b, Rgn.c]
    refine Rgn.sk 4 rfl ?_
    try simp only [Act.put, Rgn.a, Rgn.b, Rgn.c]
    refine Rgn.sk 5 rfl ?_
    try simp only [Act.put, Rgn.a, Rgn.b, Rgn.c]
    refine Rgn.sk 6 rfl ?_
    try simp only [Act.put, Rgn.a, Rgn.b, Rgn.c]
    refine Rgn.sk 7 rfl ?_
    try simp only [Act.put, Rgn.a, Rgn.b, Rgn.c]
    refine Rgn.sk 8 rfl ?_
    try simp only [Act.put, Rgn.a, Rgn.b, Rgn.c]
    refine Rgn.sk 9 rfl ?_
    try simp only [Act.put, Rgn.a, Rgn.b, Rgn.c]
    refine Rgn.sk 10 rfl ?_
    try simp only [Act.put, Rgn.a, Rgn.b, Rgn.c]
    refine Rgn.sk 11 rfl ?_
    try simp only [Act.put, Rgn.a, Rgn.b, Rgn.c]
    refine Rgn.tk 12 rfl ?_
    try simp only [Act.put, Rgn.a, Rgn.b, Rgn.c]
    refine wpAnyH_done (by kernel_rfl) ?_ _
    have B2 := Lib.hid B1.out.drew
    go_wp2_with fail
    go_roundw
    case rel => exact ⟨k + 1, by omega, by go_num, c0, c1, B2, HA2⟩
    case measure => simp [intOf]; omega
   | none =>
    rw [hs] at K1
    simp only [Vw.slotV, Option.getD_none, Option.isSome_none] at K1
    by_cases h0 : (Vw.active c v xs).length = 0
    ·have hp : Sy.parts c v ⟨xt, ⟨x0k, x0i⟩, ⟨x1k, x1i⟩, xA, xn, xc, xs⟩ = false := by rw [HPS.out, decide_eq_true h0]; rfl
     have HA2 : Hid (∀ (j : Nat) (y : Lk), j < k + 1 → l[j]? = some y → Sy.parts c v y = false) := Lib.hid (fun j y hj hy => by
      by_cases e : j = k
      ·subst e; rw [HX.out] at hy; injection hy with hy; rw [← hy]; exact hp
      ·exact HA.out j y (by omega) hy)
     rw [h0] at K2
     clear hp hs
     go_wp2_with fail
     refine wp_region_held_drew (S := (fun w' => w'.cell? ⟨w.heap.size, 0, none⟩ = some (.int .i64 c) ∧ w'.cell? ⟨w.heap.size, 1, none⟩ = some (.int .i64 v) ∧ w'.cell? ⟨b, off + k * 6 + 5, none⟩ = some (.slice xA xn xc))) (by kernel_rfl) ?_ (fun hHeld => ?_)
     ·go_keep
     refine Rgn.tk 0 rfl ?_
     try simp only [Act.put, Rgn.a, Rgn.b, Rgn.c]
     refine Rgn.tk 1 rfl ?_
     try simp only [Act.put, Rgn.a, Rgn.b, Rgn.c]
     refine Rgn.tk 2 rfl ?_
     try simp only [Act.put, Rgn.a, Rgn.b, Rgn.c]
     refine Rgn.tk 3 rfl ?_
     try simp only [Act.put, Rgn.a, Rgn.b, Rgn.c]
     refine Rgn.tk 4 rfl ?_
     try simp only [Act.put, Rgn.a, Rgn.b, Rgn.c]
     refine Rgn.tk 5 rfl ?_
     try simp only [Act.put, Rgn.a, Rgn.b, Rgn.c]
     refine Rgn.one 6 rfl (by kernel_rfl) (fun K hK => ?_)
     go_simp
     refine (K1.out _ HB.out.drew).mono ?_
     rintro e wq ⟨rfl, bq⟩
     replace c0 := Kit.cell_below bq c0
     replace c1 := Kit.cell_below bq c1
     replace m5 := Kit.cell_below bq m5
     have B1 := Lib.hid (HB.out.drew.trans (bq.mono HB.out.drew.size))
     clear bq
     go_simp
     refine hK.out _ _ ?_ (fun hHeld => ?_)
     ·go_keep
     clear hK K
     try simp only [Act.put, Rgn.a, Rgn.b, Rgn.c]
     refine Rgn.tk 7 rfl ?_
     try simp only [Act.put, Rgn.a, Rgn.b, Rgn.c]
     refine Rgn.tk 8 rfl ?_
     try simp only [Act.put, Rgn.a, Rgn.b, Rgn.c]
     refine Rgn.tk 9 rfl ?_
     try simp only [Act.put, Rgn.a, Rgn.b, Rgn.c]
     refine Rgn.tk 10 rfl ?_
     try simp only [Act.put, Rgn.a, Rgn.b, Rgn.c]
     refine Rgn.tk 11 rfl ?_
     try simp only [Act.put, Rgn.a, Rgn.b, Rgn.c]
     refine wpAnyH_done (by kernel_rfl) ?_ _
     go_wp2_with fail
     refine wp_region_held_drew (S := (fun w' => w'.cell? ⟨w.heap.size, 0, none⟩ = some (.int .i64 c) ∧ w'.cell? ⟨w.heap.size, 1, none⟩ = some (.int .i64 v) ∧ w'.cell? ⟨b, off + k * 6 + 5, none⟩ = some (.slice xA xn xc))) (by kernel_rfl) ?_ (fun hHeld => ?_)
     ·go_keep
     refine Rgn.tk 0 rfl ?_
     try simp only [Act.put, Rgn.a, Rgn.b, Rgn.c]
     refine Rgn.tk 1 rfl ?_
     try simp only [Act.put, Rgn.a, Rgn.b, Rgn.c]
     refine Rgn.tk 2 rfl ?_
     try simp only [Act.put, Rgn.a, Rgn.b, Rgn.c]
     refine Rgn.tk 3 rfl ?_
     try simp only [Act.put, Rgn.a, Rgn.b, Rgn.c]
     refine Rgn.tk 4 rfl ?_
     try simp only [Act.put, Rgn.a, Rgn.b, Rgn.c]
     refine Rgn.tk 5 rfl ?_
     try simp only [Act.put, Rgn.a, Rgn.b, Rgn.c]
     refine Rgn.tk 6 rfl ?_
     try simp only [Act.put, Rgn.a, Rgn.b, Rgn.c]
     refine Rgn.tk 7 rfl ?_
     try simp only [Act.put, Rgn.a, Rgn.b, Rgn.c]
     refine Rgn.tk 8 rfl ?_
     try simp only [Act.put, Rgn.a, Rgn.b, Rgn.c]
     refine Rgn.one 9 rfl (by kernel_rfl) (fun K hK => ?_)
     go_simp
     refine (K2.out _ B1.out.drew).mono ?_
     rintro e wp ⟨v1, rfl, hown, bp⟩
     have hf : ∃ A1 c1, v1 = .slice A1 0 c1 := (by rcases hown.2 with ⟨rfl, _⟩ | ⟨g, cp, cur, rfl, _⟩ <;> exact ⟨_, _, rfl⟩)
     obtain ⟨A1, cap1, rfl⟩ := hf
     replace c0 := Kit.cell_below bp c0
     replace c1 := Kit.cell_below bp c1
     replace m5 := Kit.cell_below bp m5
     have B2 := Lib.hid (B1.out.drew.trans (bp.mono B1.out.drew.size))
     clear bp hown
     go_simp
     refine hK.out _ _ ?_ (fun hHeld => ?_)
     ·go_keep
     clear hK K
     try simp only [Act.put, Rgn.a, Rgn.b, Rgn.c]
     refine Rgn.tk 10 rfl ?_
     try simp only [Act.put, Rgn.a, Rgn.b, Rgn.c]
     refine Rgn.tk 11 rfl ?_
     try simp only [Act.put, Rgn.a, Rgn.b, Rgn.c]
     refine Rgn.tk 12 rfl ?_
     try simp only [Act.put, Rgn.a, Rgn.b, Rgn.c]
     refine wpAnyH_done (by kernel_rfl) ?_ _
     go_wp2_with fail
     go_roundw
     case rel => exact ⟨k + 1, by omega, by go_num, c0, c1, B2, HA2⟩
     case measure => simp [intOf]; omega
    ·have hp : Sy.parts c v ⟨xt, ⟨x0k, x0i⟩, ⟨x1k, x1i⟩, xA, xn, xc, xs⟩ = true := by rw [HPS.out, decide_eq_false h0, hs]; rfl
     have HR := Lib.hid (Sy.split_hit HX.out hp HA.out)
     have h0p : 0 < (Vw.active c v xs).length := by omega
     have h0q : (0 : Int) < ((Vw.active c v xs).length : Int) := by omega
     clear hp hs h0
     go_wp2_with fail
     refine wp_region_held_drew (S := (fun w' => w'.cell? ⟨w.heap.size, 0, none⟩ = some (.int .i64 c) ∧ w'.cell? ⟨w.heap.size, 1, none⟩ = some (.int .i64 v) ∧ w'.cell? ⟨b, off + k * 6 + 5, none⟩ = some (.slice xA xn xc))) (by kernel_rfl) ?_ (fun hHeld => ?_)
     ·go_keep
     refine Rgn.tk 0 rfl ?_
     try simp only [Act.put, Rgn.a, Rgn.b, Rgn.c]
     refine Rgn.tk 1 rfl ?_
     try simp only [Act.put, Rgn.a, Rgn.b, Rgn.c]
     refine Rgn.tk 2 rfl ?_
     try simp only [Act.put, Rgn.a, Rgn.b, Rgn.c]
     refine Rgn.tk 3 rfl ?_
     try simp only [Act.put, Rgn.a, Rgn.b, Rgn.c]
     refine Rgn.tk 4 rfl ?_
     try simp only [Act.put, Rgn.a, Rgn.b, Rgn.c]
     refine Rgn.tk 5 rfl ?_
     try simp only [Act.put, Rgn.a, Rgn.b, Rgn.c]
     refine Rgn.one 6 rfl (by kernel_rfl) (fun K hK => ?_)
     go_simp
     refine (K1.out _ HB.out.drew).mono ?_
     rintro e wq ⟨rfl, bq⟩
     replace c0 := Kit.cell_below bq c0
     replace c1 := Kit.cell_below bq c1
     replace m5 := Kit.cell_below bq m5
     have B1 := Lib.hid (HB.out.drew.trans (bq.mono HB.out.drew.size))
     clear bq
     go_simp
     refine hK.out _ _ ?_ (fun hHeld => ?_)
     ·go_keep
     clear hK K
     try simp only [Act.put, Rgn.a, Rgn.b, Rgn.c]
     refine Rgn.tk 7 rfl ?_
     try simp only [Act.put, Rgn.a, Rgn.b, Rgn.c]
     refine Rgn.tk 8 rfl ?_
     try simp only [Act.put, Rgn.a, Rgn.b, Rgn.c]
     refine Rgn.tk 9 rfl ?_
     try simp only [Act.put, Rgn.a, Rgn.b, Rgn.c]
     refine Rgn.tk 10 rfl ?_
     try simp only [Act.put, Rgn.a, Rgn.b, Rgn.c]
     refine Rgn.tk 11 rfl ?_
     try simp only [Act.put, Rgn.a, Rgn.b, Rgn.c]
     refine wpAnyH_done (by kernel_rfl) ?_ _
     go_wp2_with fail
     refine wp_region_held_drew (S := (fun w' => w'.cell? ⟨w.heap.size, 0, none⟩ = some (.int .i64 c) ∧ w'.cell? ⟨w.heap.size, 1, none⟩ = some (.int .i64 v) ∧ w'.cell? ⟨b, off + k * 6 + 5, none⟩ = some (.slice xA xn xc))) (by kernel_rfl) ?_ (fun hHeld => ?_)
     ·go_keep
     refine Rgn.tk 0 rfl ?_
     try simp only [Act.put, Rgn.a, Rgn.b, Rgn.c]
     refine Rgn.tk 1 rfl ?_
     try simp only [Act.put, Rgn.a, Rgn.b, Rgn.c]
     refine Rgn.tk 2 rfl ?_
     try simp only [Act.put, Rgn.a, Rgn.b, Rgn.c]
     refine Rgn.tk 3 rfl ?_
     try simp only [Act.put, Rgn.a, Rgn.b, Rgn.c]
     refine Rgn.tk 4 rfl ?_
     try simp only [Act.put, Rgn.a, Rgn.b, Rgn.c]
     refine Rgn.tk 5 rfl ?_
     try simp only [Act.put, Rgn.a, Rgn.b, Rgn.c]
     refine Rgn.tk 6 rfl ?_
     try simp only [Act.put, Rgn.a, Rgn.b, Rgn.c]
     refine Rgn.tk 7 rfl ?_
     try simp only [Act.put, Rgn.a, Rgn.b, Rgn.c]
     refine Rgn.tk 8 rfl ?_
     try simp only [Act.put, Rgn.a, Rgn.b, Rgn.c]
     refine Rgn.one 9 rfl (by kernel_rfl) (fun K hK => ?_)
     go_simp
     refine (K2.out _ B1.out.drew).mono ?_
     rintro e wp ⟨v1, rfl, hown, bp⟩
     obtain ⟨A1, cap1, rfl, _⟩ := Vw.Ints.of_own hown
     replace c0 := Kit.cell_below bp c0
     replace c1 := Kit.cell_below bp c1
     replace m5 := Kit.cell_below bp m5
     have B2 := Lib.hid (B1.out.drew.trans (bp.mono B1.out.drew.size))
     clear bp hown
     go_simp
     refine hK.out _ _ ?_ (fun hHeld => ?_)
     ·go_keep
     clear hK K
     try simp only [Act.put, Rgn.a, Rgn.b, Rgn.c]
     refine Rgn.tk 10 rfl ?_
     try simp only [Act.put, Rgn.a, Rgn.b, Rgn.c]
     refine Rgn.tk 11 rfl ?_
     try simp only [Act.put, Rgn.a, Rgn.b, Rgn.c]
     refine Rgn.tk 12 rfl ?_
     try simp only [Act.put, Rgn.a, Rgn.b, Rgn.c]
     refine wpAnyH_done (by kernel_rfl) ?_ _
     go_wp2_with fail
     go_ret2
     exact ⟨by rw [HR.out]; rfl, B2.out⟩
  ·obtain rfl : k = len := by omega
   have HR := Lib.hid (Sy.split_miss (c := c) (v := v) (l := l) (fun j y hy => HA.out j y (by have := (List.getElem?_eq_some_iff.1 hy).1; rw [HLL.out] at this; exact this) hy))
   go_wp2_with fail
   go_ret2
   exact ⟨by rw [HR.out]; rfl, HB.out⟩
end Go.Proofs.YtgiojagdmglinaaGreatDoor
namespace Go.Proofs.YtgiojagdmglinaaGreatDoor.WholeAgrees
open Go Go.RowKit
theorem lks_n {x : Wd} (hx : x.Right) (l : List Ch) (ads : List (Nat × Nat)) : ∀ z ∈ Sw.lks x l ads, z.n ≤ 1000000 := by
 intro z hz
 obtain ⟨k, hk, rfl⟩ := List.mem_mapIdx.1 hz
 show x.n ≤ 1000000
 have := hx.hi
 omega
theorem split1 {x : Wd} (hx : x.Right) (hh : x.h1 = x.h0) (hA : Wm.InvA x.n (Ru.F x.c x.v) x.h0 x.nodes) (l : List Ch) (ads : List (Nat × Nat)) (A : Option Addr) (n cap : Nat) (c v : Int) (hc : c = x.c) (hv : v = x.v) (w : World) (hl : Looks w A n (Sw.lks x l ads)) (hn : n ≤ 300) :
  Calls Tryz.prog 24 #[.agg #[.int .i64 c, .int .i64 v], .slice A n cap] w fun e w' => e = .returned (.tuple #[.int .i64 0, .bool false]) ∧ Below w.heap.size w w' := by
 subst hc hv
 refine (Sy.split_calls x.c x.v A n cap _ w hl (by omega) (lks_n hx l ads)).mono ?_
 rintro e w' ⟨rfl, hb⟩
 rw [Ru.parts_no hx l hh hA ads]
 exact ⟨rfl, hb⟩
theorem leaves1 {x : Wd} (hx : x.Right) (hh : x.h1 = x.h0) (hA : Wm.InvA x.n (Ru.F x.c x.v) x.h0 x.nodes) (l : List Ch) (ads : List (Nat × Nat)) (A : Option Addr) (n cap : Nat) (c v : Int) (hc : c = x.c) (hv : v = x.v) (w : World) (hl : Looks w A n (Sw.lks x l ads)) (hn : n ≤ 300) :
  Calls Tryz.prog 25 #[.agg #[.int .i64 c, .int .i64 v], .slice A n cap] w fun e w' => e = .returned (.tuple #[.int .i64 0, .bool false]) ∧ Below w.heap.size w w' := by
 subst hc hv
 refine (Sy.leaves_calls x.c x.v A n cap _ w hl (by omega) (lks_n hx l ads)).mono ?_
 rintro e w' ⟨rfl, hb⟩
 rw [Ru.leaves_no hx l hh hA ads]
 exact ⟨rfl, hb⟩
theorem split2 {x : Wd} (hx : x.Right) (hh : x.h1 = x.h0) (hA : Wm.InvA x.n (Ru.F x.c x.v) x.h0 x.nodes) (l : List Ch) (ads : List (Nat × Nat)) (A : Option Addr) (n cap : Nat) (c v : Int) (hc : c = x.c) (hv : v = x.v) (w : World) (hl : Looks w A n (Sw.lks x l ads)) (hn : n ≤ 300) :
  Calls Tryz.prog 26 #[.agg #[.int .i64 c, .int .i64 v], .slice A n cap] w fun e w' => e = .returned (.tuple #[.int .i64 0, .bool false]) ∧ Below w.heap.size w w' := by
 subst hc hv
 refine (Sy.rsplit_calls x.c x.v A n cap _ w hl (by omega) (lks_n hx l ads)).mono ?_
 rintro e w' ⟨rfl, hb⟩
 rw [Ru.parts_no hx l hh hA ads]
 exact ⟨rfl, hb⟩
theorem leaves2 {x : Wd} (hx : x.Right) (hh : x.h1 = x.h0) (hA : Wm.InvA x.n (Ru.F x.c x.v) x.h0 x.nodes) (l : List Ch) (ads : List (Nat × Nat)) (A : Option Addr) (n cap : Nat) (c v : Int) (hc : c = x.c) (hv : v = x.v) (w : World) (hl : Looks w A n (Sw.lks x l ads)) (hn : n ≤ 300) :
  Calls Tryz.prog 27 #[.agg #[.int .i64 c, .int .i64 v], .slice A n cap] w fun e w' => e = .returned (.tuple #[.int .i64 0, .bool false]) ∧ Below w.heap.size w w' := by
 subst hc hv
 refine (Sy.rleaves_calls x.c x.v A n cap _ w hl (by omega) (lks_n hx l ads)).mono ?_
 rintro e w' ⟨rfl, hb⟩
 rw [Ru.leaves_no hx l hh hA ads]
 exact ⟨rfl, hb⟩
set_option maxHeartbeats 4000000 in
theorem walk1 (s : Sc) (w : World) (hS : Op.ScThere w s) :
  Calls Tryz.prog 9 #[.agg s.cells.toArray] w fun e w' => e = .returned (.bool true) ∧ Below w.heap.size w w' := by
 have HS := Lib.hid hS
 clear hS
 show Calls Tryz.prog 9 #[.agg #[.int .i64 s.n, .slice s.pa s.pn s.pc, .int .i64 s.c, .int .i64 s.v, .bool s.ld, .slice s.na s.nn s.nc, .int .i64 (s.h0.ag 0), .int .i64 (s.h0.ag 1), .int .i64 (s.h0.ag 2), .int .i64 (s.h0.ag 3), .int .i64 (s.h0.ag 4), .int .i64 (s.h0.ag 5), .int .i64 (s.h0.ag 6), .int .i64 (s.h0.ag 7), .int .i64 s.h0.port, .int .i64 s.h0.age, .int .i64 s.h0.hold, .int .i64 s.h0.pos, .int .i64 (s.h1.ag 0), .int .i64 (s.h1.ag 1), .int .i64 (s.h1.ag 2), .int .i64 (s.h1.ag 3), .int .i64 (s.h1.ag 4), .int .i64 (s.h1.ag 5), .int .i64 (s.h1.ag 6), .int .i64 (s.h1.ag 7), .int .i64 s.h1.port, .int .i64 s.h1.age, .int .i64 s.h1.hold, .int .i64 s.h1.pos, .slice s.ta s.tn s.tc]] w _
 go_enter Tryz.func9, Tryz.ntmps9
 go_upto_region 1 with fail
 have R1 := Lib.hid (Kit.Row.newAt w #[.int .i64 s.n, .slice s.pa s.pn s.pc, .int .i64 s.c, .int .i64 s.v, .bool s.ld, .slice s.na s.nn s.nc, .int .i64 (s.h0.ag 0), .int .i64 (s.h0.ag 1), .int .i64 (s.h0.ag 2), .int .i64 (s.h0.ag 3), .int .i64 (s.h0.ag 4), .int .i64 (s.h0.ag 5), .int .i64 (s.h0.ag 6), .int .i64 (s.h0.ag 7), .int .i64 s.h0.port, .int .i64 s.h0.age, .int .i64 s.h0.hold, .int .i64 s.h0.pos, .int .i64 (s.h1.ag 0), .int .i64 (s.h1.ag 1), .int .i64 (s.h1.ag 2), .int .i64 (s.h1.ag 3), .int .i64 (s.h1.ag 4), .int .i64 (s.h1.ag 5), .int .i64 (s.h1.ag 6), .int .i64 (s.h1.ag 7), .int .i64 s.h1.port, .int .i64 s.h1.age, .int .i64 s.h1.hold, .int .i64 s.h1.pos, .slice s.ta s.tn s.tc] 32 w.heap.size rfl)
 have B1 := Lib.hid ((Below.refl w.heap.size w).alloc (Nat.le_refl _) (.cells #[.int .i64 s.n, .slice s.pa s.pn s.pc, .int .i64 s.c, .int .i64 s.v, .bool s.ld, .slice s.na s.nn s.nc, .int .i64 (s.h0.ag 0), .int .i64 (s.h0.ag 1), .int .i64 (s.h0.ag 2), .int .i64 (s.h0.ag 3), .int .i64 (s.h0.ag 4), .int .i64 (s.h0.ag 5), .int .i64 (s.h0.ag 6), .int .i64 (s.h0.ag 7), .int .i64 s.h0.port, .int .i64 s.h0.age, .int .i64 s.h0.hold, .int .i64 s.h0.pos, .int .i64 (s.h1.ag 0), .int .i64 (s.h1.ag 1), .int .i64 (s.h1.ag 2), .int .i64 (s.h1.ag 3), .int .i64 (s.h1.ag 4), .int .i64 (s.h1.ag 5), .int .i64 (s.h1.ag 6), .int .i64 (s.h1.ag 7), .int .i64 s.h1.port, .int .i64 s.h1.age, .int .i64 s.h1.hold, .int .i64 s.h1.pos, .slice s.ta s.tn s.tc] 32))
 generalize w.alloc (.cells #[.int .i64 s.n, .slice s.pa s.pn s.pc, .int .i64 s.c, .int .i64 s.v, .bool s.ld, .slice s.na s.nn s.nc, .int .i64 (s.h0.ag 0), .int .i64 (s.h0.ag 1), .int .i64 (s.h0.ag 2), .int .i64 (s.h0.ag 3), .int .i64 (s.h0.ag 4), .int .i64 (s.h0.ag 5), .int .i64 (s.h0.ag 6), .int .i64 (s.h0.ag 7), .int .i64 s.h0.port, .int .i64 s.h0.age, .int .i64 s.h0.hold, .int .i64 s.h0.pos, .int .i64 (s.h1.ag 0), .int .i64 (s.h1.ag 1), .int .i64 (s.h1.ag 2), .int .i64 (s.h1.ag 3), .int .i64 (s.h1.ag 4), .int .i64 (s.h1.ag 5), .int .i64 (s.h1.ag 6), .int .i64 (s.h1.ag 7), .int .i64 s.h1.port, .int .i64 s.h1.age, .int .i64 s.h1.hold, .int .i64 s.h1.pos, .slice s.ta s.tn s.tc] 32) = w2 at *
 go_step
 refine Kit.wpList_load_row rfl 32 (.tmp 1) rfl w.heap.size 0 rfl R1.out [.int .i64 s.n, .slice s.pa s.pn s.pc, .int .i64 s.c, .int .i64 s.v, .bool s.ld, .slice s.na s.nn s.nc, .int .i64 (s.h0.ag 0), .int .i64 (s.h0.ag 1), .int .i64 (s.h0.ag 2), .int .i64 (s.h0.ag 3), .int .i64 (s.h0.ag 4), .int .i64 (s.h0.ag 5), .int .i64 (s.h0.ag 6), .int .i64 (s.h0.ag 7), .int .i64 s.h0.port, .int .i64 s.h0.age, .int .i64 s.h0.hold, .int .i64 s.h0.pos, .int .i64 (s.h1.ag 0), .int .i64 (s.h1.ag 1), .int .i64 (s.h1.ag 2), .int .i64 (s.h1.ag 3), .int .i64 (s.h1.ag 4), .int .i64 (s.h1.ag 5), .int .i64 (s.h1.ag 6), .int .i64 (s.h1.ag 7), .int .i64 s.h1.port, .int .i64 s.h1.age, .int .i64 s.h1.hold, .int .i64 s.h1.pos, .slice s.ta s.tn s.tc] rfl _ Tryz.underlying32 rfl Nw.sizeScript ?_
 go_wp2_with fail
 refine (Sm.may_calls s 300 w2 (HS.out.ticks.below B1.out) (by omega)).mono ?_
 rintro e w3 ⟨⟨b, rfl, hb⟩, b3⟩
 have RS := Lib.hid (R1.out.below b3)
 have HB := Lib.hid (B1.out.trans (b3.mono B1.out.size))
 clear b3 R1 B1
 cases b with
 | false =>
  clear hb RS
  go_wp2_with fail
  refine (Aw.awake_calls _).mono ?_
  rintro e wz ⟨rfl, bz⟩
  have HBZ := Lib.hid (HB.out.trans (bz.mono HB.out.size))
  clear bz
  go_wp2_with fail
  go_ret
  exact ⟨rfl, HBZ.out⟩
 | true =>
  obtain ⟨h3', h8', hld, htn⟩ := hb rfl
  obtain ⟨n, hn⟩ : ∃ n : Nat, s.n = n := ⟨s.n.toNat, by omega⟩
  have h3 : 3 ≤ n := by omega
  have h8 : n ≤ 8 := by omega
  clear hb h3' h8'
  have HNN := Lib.hid hn
  have HLD := Lib.hid hld
  clear hn hld
  go_upto_region 3 with fail
  go_step
  refine Kit.wpList_load_row rfl 32 (.tmp 1) rfl w.heap.size 0 rfl RS.out [.int .i64 s.n, .slice s.pa s.pn s.pc, .int .i64 s.c, .int .i64 s.v, .bool s.ld, .slice s.na s.nn s.nc, .int .i64 (s.h0.ag 0), .int .i64 (s.h0.ag 1), .int .i64 (s.h0.ag 2), .int .i64 (s.h0.ag 3), .int .i64 (s.h0.ag 4), .int .i64 (s.h0.ag 5), .int .i64 (s.h0.ag 6), .int .i64 (s.h0.ag 7), .int .i64 s.h0.port, .int .i64 s.h0.age, .int .i64 s.h0.hold, .int .i64 s.h0.pos, .int .i64 (s.h1.ag 0), .int .i64 (s.h1.ag 1), .int .i64 (s.h1.ag 2), .int .i64 (s.h1.ag 3), .int .i64 (s.h1.ag 4), .int .i64 (s.h1.ag 5), .int .i64 (s.h1.ag 6), .int .i64 (s.h1.ag 7), .int .i64 s.h1.port, .int .i64 s.h1.age, .int .i64 s.h1.hold, .int .i64 s.h1.pos, .slice s.ta s.tn s.tc] rfl _ Tryz.underlying32 rfl Nw.sizeScript ?_
  go_wp2_with fail
  refine (Al.all_calls n s w3 h3 h8 HNN.out HLD.out (HS.out.power.below HB.out) (HS.out.ticks.below HB.out) (by omega)).mono ?_
  rintro e w4 ⟨y, p, G, A, cap, ads, rfl, hlen, hy, hlk, hty, hb⟩
  have HB4 := Lib.hid (HB.out.trans (hb.mono HB.out.size))
  have LK := Lib.hid hlk
  have HTY := Lib.hid hty
  have HY := Lib.hid hy
  clear hb hlk hty hy RS HB
  dsimp only
  iterate 19 (first | go_guarded | go_step | go_upon | go_back)
  refine Kit.wpList_store_row rfl 36 (.tmp 4) (.tmp 22) rfl w4.heap.size 0 #[.int .i64 y.n, .int .i64 y.tick, .int .i64 y.c, .int .i64 y.v, .slice y.pa y.n y.pc, .slice y.na y.n y.nc, .int .i64 (y.h0.ag 0), .int .i64 (y.h0.ag 1), .int .i64 (y.h0.ag 2), .int .i64 (y.h0.ag 3), .int .i64 (y.h0.ag 4), .int .i64 (y.h0.ag 5), .int .i64 (y.h0.ag 6), .int .i64 (y.h0.ag 7), .int .i64 y.h0.port, .int .i64 y.h0.age, .int .i64 y.h0.hold, .int .i64 y.h0.pos, .int .i64 (y.h1.ag 0), .int .i64 (y.h1.ag 1), .int .i64 (y.h1.ag 2), .int .i64 (y.h1.ag 3), .int .i64 (y.h1.ag 4), .int .i64 (y.h1.ag 5), .int .i64 (y.h1.ag 6), .int .i64 (y.h1.ag 7), .int .i64 y.h1.port, .int .i64 y.h1.age, .int .i64 y.h1.hold, .int .i64 y.h1.pos] rfl rfl (Kit.Row.newAt w4 _ _ _ rfl) (by simp) Sw.sizeWorld (by first | rfl | (simp [Value.oneCell']; done) | decide) ?_
  intro w5 hW5
  have RY := Lib.hid (Kit.Row.all (Kit.Row.newAt w4 #[.int .i64 0, .int .i64 0, .int .i64 0, .int .i64 0, .slice none 0 0, .slice none 0 0, .int .i64 0, .int .i64 0, .int .i64 0, .int .i64 0, .int .i64 0, .int .i64 0, .int .i64 0, .int .i64 0, .int .i64 0, .int .i64 0, .int .i64 0, .int .i64 0, .int .i64 0, .int .i64 0, .int .i64 0, .int .i64 0, .int .i64 0, .int .i64 0, .int .i64 0, .int .i64 0, .int .i64 0, .int .i64 0, .int .i64 0, .int .i64 0] 36 _ rfl) hW5 rfl)
  have bb5 := Kit.below_of ((Below.refl w4.heap.size w4).alloc (Nat.le_refl _) (.cells #[.int .i64 0, .int .i64 0, .int .i64 0, .int .i64 0, .slice none 0 0, .slice none 0 0, .int .i64 0, .int .i64 0, .int .i64 0, .int .i64 0, .int .i64 0, .int .i64 0, .int .i64 0, .int .i64 0, .int .i64 0, .int .i64 0, .int .i64 0, .int .i64 0, .int .i64 0, .int .i64 0, .int .i64 0, .int .i64 0, .int .i64 0, .int .i64 0, .int .i64 0, .int .i64 0, .int .i64 0, .int .i64 0, .int .i64 0, .int .i64 0] 36)) hW5 (Nat.le_refl _)
  have L5 := Lib.hid (LK.out.below bb5)
  have TY5 := Lib.hid (HTY.out.below bb5)
  have HB5 := Lib.hid (HB4.out.trans (bb5.mono HB4.out.size))
  clear hW5 bb5 LK HTY HB4
  generalize w4.heap.size = Y at *
  have c2 := RY.out.at_ 2 (.int .i64 y.c) rfl
  have c3 := RY.out.at_ 3 (.int .i64 y.v) rfl
  go_wp2_with fail
  refine (split1 (Sw.start_right n s p G h3 h8) rfl (Ru.start_inv n s p G h8) s.ticks ads A s.tn cap y.c y.v HY.out.2.1 HY.out.2.2.1 w5 L5.out htn).mono ?_
  rintro e v0 ⟨rfl, bv⟩
  have L60 := Lib.hid (L5.out.below bv)
  have HB60 := Lib.hid (HB5.out.trans (bv.mono HB5.out.size))
  have RY60 := Lib.hid (RY.out.below bv)
  clear bv c2 c3 L5 HB5 RY
  have c2 := RY60.out.at_ 2 (.int .i64 y.c) rfl
  have c3 := RY60.out.at_ 3 (.int .i64 y.v) rfl
  go_wp2_with fail
  refine (leaves1 (Sw.start_right n s p G h3 h8) rfl (Ru.start_inv n s p G h8) s.ticks ads A s.tn cap y.c y.v HY.out.2.1 HY.out.2.2.1 v0 L60.out htn).mono ?_
  rintro e v1 ⟨rfl, bv⟩
  have L61 := Lib.hid (L60.out.below bv)
  have HB61 := Lib.hid (HB60.out.trans (bv.mono HB60.out.size))
  have RY61 := Lib.hid (RY60.out.below bv)
  clear bv c2 c3 L60 HB60 RY60
  have c2 := RY61.out.at_ 2 (.int .i64 y.c) rfl
  have c3 := RY61.out.at_ 3 (.int .i64 y.v) rfl
  go_wp2_with fail
  refine (split2 (Sw.start_right n s p G h3 h8) rfl (Ru.start_inv n s p G h8) s.ticks ads A s.tn cap y.c y.v HY.out.2.1 HY.out.2.2.1 v1 L61.out htn).mono ?_
  rintro e v2 ⟨rfl, bv⟩
  have L62 := Lib.hid (L61.out.below bv)
  have HB62 := Lib.hid (HB61.out.trans (bv.mono HB61.out.size))
  have RY62 := Lib.hid (RY61.out.below bv)
  clear bv c2 c3 L61 HB61 RY61
  have c2 := RY62.out.at_ 2 (.int .i64 y.c) rfl
  have c3 := RY62.out.at_ 3 (.int .i64 y.v) rfl
  go_wp2_with fail
  refine (leaves2 (Sw.start_right n s p G h3 h8) rfl (Ru.start_inv n s p G h8) s.ticks ads A s.tn cap y.c y.v HY.out.2.1 HY.out.2.2.1 v2 L62.out htn).mono ?_
  rintro e v3 ⟨rfl, bv⟩
  have L63 := Lib.hid (L62.out.below bv)
  have HB63 := Lib.hid (HB62.out.trans (bv.mono HB62.out.size))
  have RY63 := Lib.hid (RY62.out.below bv)
  clear bv c2 c3 L62 HB62 RY62
  go_wp2_with fail
  refine (Aw.awake_calls _).mono ?_
  rintro e wz ⟨rfl, bz⟩
  have HBZ := Lib.hid (HB63.out.trans (bz.mono HB63.out.size))
  clear bz
  go_wp2_with fail
  go_ret
  exact ⟨rfl, HBZ.out⟩
theorem walk (v : Value) {w : World} (w0 : Op.IsScript w v) (w' : World) (hw : w' = w := by rfl) :
  Calls Tryz.prog 9 #[v] w' fun e w2 => e = .returned (.bool true) ∧ Below w'.heap.size w' w2 := by
 subst hw
 obtain ⟨s, rfl, hS⟩ := w0
 exact walk1 s _ hS
end Go.Proofs.YtgiojagdmglinaaGreatDoor.WholeAgrees
namespace Go.Proofs.YtgiojagdmglinaaGreatDoor.WholeAgrees
open Go.ChangeShapes Go.WideShapes Go.ChangeAt Go.RowKit
open Go.ChangeMaps (open_string shut_string)
set_option maxHeartbeats 400000 in
theorem lifted (os : Os) (started : os.Started) (H : Type) (enc : TypeId × Value → H) :
  ReturnsInHanded {} Tryz.checked os 9 .any (fun w args => (Rows.wholeAgreesSpec.pre enc Tryz.prog Tryz.f9 [] false w args ∧ laidMetH Tryz.prog Dor.laid3 w) ∧ sizedMet enc Tryz.prog Tryz.f9 (OpenSpec.ofChange Rows.wholeAgreesSpec) false w args) (Rows.wholeAgreesSpec.post enc Tryz.prog Tryz.f9 false true false false) := by
 refine returnsInHanded_of_change_and (C := Tryz.checked) (X := fun w _ => laidMetH Tryz.prog Dor.laid3 w) (fun _ _ _ hh h => h.of_heap hh) own started (by kernel_rfl) Tryz.func9
  (ChangeSpec.witness_shaped (enc := enc) (C := Tryz.checked) (os := os) (X := fun w _ => laidMetH Tryz.prog Dor.laid3 w) false (World.doorLaid Tryz.prog 24 os) #[.agg #[.int .i64 0, .slice none 0 0, .int .i64 0, .int .i64 0, .bool false, .slice none 0 0, .int .i64 0, .int .i64 0, .int .i64 0, .int .i64 0, .int .i64 0, .int .i64 0, .int .i64 0, .int .i64 0, .int .i64 0, .int .i64 0, .int .i64 0, .int .i64 0, .int .i64 0, .int .i64 0, .int .i64 0, .int .i64 0, .int .i64 0, .int .i64 0, .int .i64 0, .int .i64 0, .int .i64 0, .int .i64 0, .int .i64 0, .int .i64 0, .slice none 0 0]] 8 rfl (Dor.shaped os _) (by kernel_rfl) (by kernel_rfl) (by kernel_rfl) (Dor.met os _)) ?_
 intro W base args ds gs before hval0 hW _ _ _ _
 have hval : ∀ (j : Nat) t v, Tryz.f9.params[j]? = some t → args[j]? = some v → Value.okWide Tryz.prog W .any base t v := hval0
 have hW' := hW
 obtain ⟨p, q, hA0, hV, rfl, hfz, hnd⟩ := hW
 have hA : DataW.TrodAll enc Tryz.prog W 0 (fun _ => true) true Tryz.f9.params.toList args.toList ds p := hA0
 rw [Tryz.params9] at hA hval
 obtain ⟨v0, vs0, d0, ds0, p0, q0, hargs, rfl, rfl, h0, r0⟩ := trodAll_cons hA
 obtain ⟨rfl, rfl, rfl⟩ := trodAll_nil r0
 obtain rfl : args = #[v0] := by cases args; simp_all
 obtain ⟨rfl, rfl⟩ := trodVars_none hV
 have k0 := h0
 have lt0 : ∀ x ∈ p0, x.block < W.heap.size := by obtain ⟨m, hm⟩ := k0; exact DataW.trod_lt m _ _ _ hm
 have w0 := Op.isScript (hval 0 32 v0 rfl rfl) h0
 clear hA0 hval0
 refine (walk v0 w0 W).mono fun e W' ⟨he, bel⟩ => ?_
 subst he
 exact ⟨_, rfl, _, _, _, [], _, [], hW', trodAll_mk1 (shut_bool Tryz.underlying4 _), (trodAll_cons_mk (Below.trod laidOut (by kernel_rfl) (of_decide_eq_true (by kernel_rfl)) k0 bel lt0) trodAll_mk0), rfl, bel.frame _, fun h => by cases h⟩
theorem over : Rows.wholeAgreesRow.holds Tryz.pinned (OpenSpec.ofChange Rows.wholeAgreesSpec) :=
 OpenClaim.holds_of_wide 9 Tryz.f9 rfl rfl rfl rfl rfl rfl rfl ⟨rfl, rfl, rfl, rfl, rfl⟩ rfl rfl rfl rfl rfl named Tryz.func9 facts
  (of_decide_eq_true (by kernel_rfl)) (by unfold Func.isWrapper; first | (rw [if_pos (by decide +kernel)]; kernel_rfl) | (rw [if_neg (by decide +kernel)]; exact ⟨rfl, rfl⟩))
  (fun os started H enc _ => lifted os started H enc)
theorem proved : Rows.WholeAgreesCardSaid :=
 Claim7.holds_tied_plain_at .later [] [.data, .data, .data] true (true, "bc756e22a1b164c7e6f02c199b2fccdb787ee550ccd8ea457d36e9ca7ed46377") false
  over (fun _ h => by cases h) (by kernel_rfl) (fun _ h => by cases h) wholeAgrees_row_tie rfl ⟨rfl, rfl⟩ (by kernel_rfl) rfl
  (fun f fn hf hfn => by
   obtain rfl : f = 9 := Option.some.inj ((show Tryz.prog.funcNamed "daybreak/daybreaktop.WholeAgrees" = some 9 by kernel_rfl).symm.trans hf) |>.symm
   obtain rfl : fn = Tryz.f9 := (Option.some.inj (Tryz.func9.symm.trans hfn)).symm
   exact ⟨by kernel_rfl, fun j t ht => by
    rw [Tryz.params9] at ht
    have hm : t ∈ [32] := by simpa using Array.mem_of_getElem? ht
    have hall : ([32].all fun u => !Tryz.prog.wantsStandIn u) = true := by kernel_rfl
    exact (show Tryz.prog.wantsStandIn t = false by simpa using List.all_eq_true.1 hall t hm)⟩)
  (by kernel_rfl)
#print axioms proved
end Go.Proofs.YtgiojagdmglinaaGreatDoor.WholeAgrees
