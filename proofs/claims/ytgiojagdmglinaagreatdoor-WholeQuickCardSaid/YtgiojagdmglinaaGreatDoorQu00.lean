/-
  Part 0 of a merged text.
-/
import Derived.Test.YtgiojagdmglinaaGreatDoorRows
import Derived.WalkKit
import Derived.ProofKit
import Derived.Test.YtgiojagdmglinaaGreatDoorGb36
import Derived.Test.YtgiojagdmglinaaGreatDoorGb00
import Derived.Test.YtgiojagdmglinaaGreatDoorProg
import Derived.BigRegion
import Derived.IntWalk
import Derived.Deep.QuietTactic
import Derived.BigQuiet
import Derived.Test.YtgiojagdmglinaaGreatDoorGb34
set_option linter.unusedVariables false
set_option linter.unusedSimpArgs false
set_option maxRecDepth 100000
namespace Go.Proofs.YtgiojagdmglinaaGreatDoor.WholeQuick
theorem own : ownKnob Tryz.prog.godebug = none := by kernel_rfl
theorem laidOut : laidOutB Tryz.prog = true := by kernel_rfl
theorem named : Tryz.pinned.checked.prog.funcNamed Rows.wholeQuickRow.func = some 8 := by kernel_rfl
theorem facts : joinedFacts Tryz.pinned.checked.prog 8 Tryz.f8 Rows.wholeQuickSpec Rows.wholeQuickRow = true := by kernel_rfl
end Go.Proofs.YtgiojagdmglinaaGreatDoor.WholeQuick
namespace Go.Proofs.YtgiojagdmglinaaGreatDoor
namespace Qk
open Ru Sw
def ok (xs : List Nd) : Bool := (Vw.slot 0 0 xs).isSome && Vw.all 0 0 xs
def isCs (f : Fr) : Bool := f.k == 1 && f.i == 0
def so (n : Nat) (P : List Int) (k : Nat) (m : Ma) : Bool :=
 (decide (k < 4 * n + 2) || (isCs (Ma.said n m) == (decide (k = 4 * n + 2) || decide (k = 6 * n + 4)))) &&
 (!decide (k = 6 * n + 4) || !ok (m.next n P).xs) &&
 (decide (k < 6 * n + 5) || (ok (m.next n P).xs && decide (Vw.slot 0 0 ((m.next n P).next n P).xs = (Vw.slot 0 0 (m.next n P).xs).map (Wm.nx n))))
def all (n : Nat) (P : List Int) (p : Nat → Ma → Bool) : Nat → Nat → Ma → Bool
 | 0, _, _ => true
 | f + 1, k, m => p k m && all n P p f (k + 1) (m.next n P)
theorem all_spec (n : Nat) (P : List Int) (p : Nat → Ma → Bool) (m0 : Ma) : ∀ (f k : Nat), all n P p f k (Ma.run n P m0 k) = true → ∀ j, j < f → p (k + j) (Ma.run n P m0 (k + j)) = true
 | 0, _, _, j, hj => absurd hj (by omega)
 | f + 1, k, h, j, hj => by
  unfold all at h
  rw [Bool.and_eq_true] at h
  cases j with
  | zero => exact h.1
  | succ j =>
   have := all_spec n P p m0 f (k + 1) h.2 j (by omega)
   rw [show k + (j + 1) = k + 1 + j by omega]
   exact this
theorem a3 : all 3 (Pc.clean 3 []) (so 3 (Pc.clean 3 [])) 310 0 (first 3) = true := by kernel_rfl
theorem a4 : all 4 (Pc.clean 4 []) (so 4 (Pc.clean 4 [])) 310 0 (first 4) = true := by kernel_rfl
theorem a5 : all 5 (Pc.clean 5 []) (so 5 (Pc.clean 5 [])) 310 0 (first 5) = true := by kernel_rfl
theorem a6 : all 6 (Pc.clean 6 []) (so 6 (Pc.clean 6 [])) 310 0 (first 6) = true := by kernel_rfl
theorem a7 : all 7 (Pc.clean 7 []) (so 7 (Pc.clean 7 [])) 310 0 (first 7) = true := by kernel_rfl
theorem a8 : all 8 (Pc.clean 8 []) (so 8 (Pc.clean 8 [])) 310 0 (first 8) = true := by kernel_rfl
theorem so_all (n : Nat) (h3 : 3 ≤ n) (h8 : n ≤ 8) (k : Nat) (hk : k < 310) : so n (Pc.clean n []) k (Ma.run n (Pc.clean n []) (first n) k) = true := by
 have e : n = 3 ∨ n = 4 ∨ n = 5 ∨ n = 6 ∨ n = 7 ∨ n = 8 := by omega
 have h : all n (Pc.clean n []) (so n (Pc.clean n [])) 310 0 (Ma.run n (Pc.clean n []) (first n) 0) = true := by
  rcases e with rfl | rfl | rfl | rfl | rfl | rfl
  ·exact a3
  ·exact a4
  ·exact a5
  ·exact a6
  ·exact a7
  ·exact a8
 have := all_spec n (Pc.clean n []) (so n (Pc.clean n [])) (first n) 310 0 h k hk
 rw [Nat.zero_add] at this
 exact this
end Qk
end Go.Proofs.YtgiojagdmglinaaGreatDoor
namespace Go.Proofs.YtgiojagdmglinaaGreatDoor
open Go.RowKit
set_option maxHeartbeats 400000 in
theorem Sy.nextl_calls (n p : Int) (w : World) (h3 : 3 ≤ n) (h8 : n ≤ 8) (hp : 0 ≤ p ∧ p < n) :
  Calls Tryz.prog 49 #[.int .i64 n, .int .i64 p] w fun e w' => e = .returned (.int .i64 (Wm.nx n p)) ∧ w = w' := by
 obtain ⟨hp0, hp1⟩ := hp
 unfold Wm.nx
 by_cases h : p = n - 1
 ·rw [if_pos h]
  have g : (p == n - 1) = true := by rw [h]; simp
  clear h
  go_enter Tryz.func49, Tryz.ntmps49
  go_wp2_with fail
  go_ret
  exact ⟨rfl, rfl⟩
 ·rw [if_neg h]
  have g : (p == n - 1) = false := beq_eq_false_iff_ne.2 h
  clear h
  go_enter Tryz.func49, Tryz.ntmps49
  go_wp2_with fail
  go_ret
  exact ⟨rfl, rfl⟩
structure Sy.Mayl (n : Nat) (c v : Int) (l : List Lk) : Prop where
 lo : 3 ≤ n
 hi : n ≤ 8
 most : l.length ≤ 1000
 slot : ∀ {k : Nat} {p : Int}, k < l.length → Sy.slotAt c v l k = some p → 0 ≤ p ∧ p < n
def Sy.Toldl (n : Nat) (c v : Int) (l : List Lk) (w : World) (e : Ending) (w' : World) : Prop := ∃ a, Sy.IsAt n c v l a ∧ e = .returned (Sy.thereV l a) ∧ Below w.heap.size w w'
set_option maxHeartbeats 8000000 in
theorem Sy.therel_calls (n : Nat) (c v : Int) (A : Option Addr) (len cap : Nat) (l : List Lk) (w : World) (hl : Looks w A len l) (hm : Sy.Mayl n c v l) (hxn : ∀ x ∈ l, x.n ≤ 1000000) :
  Calls Tryz.prog 23 #[.int .i64 (n : Int), .agg #[.int .i64 c, .int .i64 v], .slice A len cap] w (Sy.Toldl n c v l w) := by
 have HL := Lib.hid hl
 have HM := Lib.hid hm
 have HXN := Lib.hid hxn
 have hll := hl.len
 have hlen : len ≤ 1000 := by have := hm.most; omega
 have HLL := Lib.hid hll
 have hn3 := hm.lo
 have hn8 := hm.hi
 clear hl hm hll hxn
 go_enter Tryz.func23, Tryz.ntmps23
 go_wp2_with fail
 go_loopw [8, 9, 10, 11, 12] (fun va vl vi _ _ wr => ∃ (k : Nat) (q : Int), k ≤ len ∧ va = .int .i64 k ∧ vi = .int .i64 ((k : Int) - 1) ∧ vl = .int .i64 q ∧ Hid ((k = len → q = -1) ∧ (k < len → 0 ≤ q ∧ Sy.slotAt c v l k = some q)) ∧ wr.cell? ⟨w.heap.size, 0, none⟩ = some (.int .i64 c) ∧ wr.cell? ⟨w.heap.size, 1, none⟩ = some (.int .i64 v) ∧ Hid (Below w.heap.size w wr) ∧ Hid (∀ (j : Nat), k ≤ j → j < len → Sy.Good n c v l j)) (fun _ _ vi _ _ _ => (intOf vi + 1).toNat)
 case atStart => exact ⟨len, -1, Nat.le_refl _, rfl, rfl, rfl, Lib.hid ⟨fun _ => rfl, fun h => absurd h (by omega)⟩, by go_simp, by go_simp, Lib.hid (Kit.alloc1 ..), Lib.hid (fun j h1 h2 => absurd h2 (by omega))⟩
 case round =>
  obtain ⟨k, q, hk, rfl, rfl, rfl, HQ, c0, c1, HB, HG⟩ := hrel
  have hws := World.block_lt_of_cell? wr ⟨w.heap.size, 0, none⟩ c0
  by_cases h0 : k = 0
  ·subst h0
   have HAt : Hid (Sy.IsAt n c v l 0) := Lib.hid ⟨Nat.zero_le _, fun i _ hi => HG.out i (Nat.zero_le _) (by rw [HLL.out] at hi; exact hi), fun h => absurd h (by omega)⟩
   have hd : decide ((0 : Int) ≤ ((0 : Nat) : Int) - 1) = false := by decide
   by_cases hz : len = 0
   ·subst hz
    have HV : Hid (Sy.thereV l 0 = .tuple #[.int .i64 0, .bool false]) := Lib.hid (by unfold Sy.thereV; rw [HLL.out]; rfl)
    go_wp2_with fail
    go_ret2
    exact ⟨0, HAt.out, by rw [HV.out]; rfl, HB.out⟩
   ·have hz' : ((0 : Int) == (len : Int)) = false := beq_eq_false_iff_ne.2 (by omega)
    have hz2 : 0 < len := by omega
    have HV : Hid (Sy.thereV l 0 = .tuple #[.int .i64 0, .bool true]) := Lib.hid (by unfold Sy.thereV; rw [HLL.out, if_neg (by omega), decide_eq_true (by omega)]; rfl)
    clear hz
    go_wp2_with fail
    go_ret2
    exact ⟨0, HAt.out, by rw [HV.out]; rfl, HB.out⟩
  ·obtain ⟨j, rfl⟩ : ∃ j, k = j + 1 := ⟨k - 1, by omega⟩
   obtain ⟨b, off, rfl, hb, hrow⟩ := HL.out.row (by omega)
   have hjl : j < l.length := by rw [HLL.out]; omega
   obtain ⟨x, hx⟩ : ∃ x, l[j]? = some x := ⟨_, List.getElem?_eq_getElem hjl⟩
   have m5 := (HB.out.cell (p := ⟨b, off + j * 6 + 5, none⟩) hb).trans (hrow j x hx).2.2.2.2.2
   have hth := HL.out.there x (List.mem_of_getElem? hx)
   have hxn := HXN.out x (List.mem_of_getElem? hx)
   have k1 := fun W (hW : Below w.heap.size w W) => Vw.vslot_calls c v x.at_ x.n x.cap x.nodes W (hth.nodes.below hW) hxn
   have k2 := fun W (hW : Below w.heap.size w W) => Vw.vall_calls c v x.at_ x.n x.cap x.nodes W (hth.nodes.below hW) hxn
   have hok : Sy.ok c v (l.getD j default) = ((Vw.slot c v x.nodes).isSome && Vw.all c v x.nodes) := by rw [Sy.getD_of hx]; rfl
   have hsl : Sy.slotAt c v l j = Vw.slot c v x.nodes := Sy.slotAt_of hx
   have hbd : ∀ p, Sy.slotAt c v l j = some p → 0 ≤ p ∧ p < (n : Int) := fun p hp => HM.out.slot hjl hp
   rw [hsl] at hbd
   obtain ⟨xt, ⟨x0k, x0i⟩, ⟨x1k, x1i⟩, xA, xn, xc, xs⟩ := x
   simp only at m5 k1 k2 hok hsl hbd
   have K1 := Lib.hid k1
   have K2 := Lib.hid k2
   have ix0 : (0 : Int) ≤ (j : Int) := by omega
   have ix1 : (j : Int) < (len : Int) := by omega
   have ix2 : j < len := by omega
   have sw : IntKind.i64.wrap ((j : Int) + 1 - 1) = (j : Int) := by rw [show (j : Int) + 1 - 1 = (j : Int) by omega]; exact IntWalk.i64_in _ (by omega)
   have sw2 : IntKind.i64.wrap (j : Int) = (j : Int) := IntWalk.i64_in _ (by omega)
   have SW := Lib.hid (And.intro sw sw2)
   clear hrow hx hth hxn k1 k2 h0 sw sw2
   cases hs : Vw.slot c v xs with
   | none =>
    have HAt : Hid (Sy.IsAt n c v l (j + 1)) := Lib.hid ⟨by rw [HLL.out]; exact hk, fun i h1 h2 => HG.out i h1 (by rw [HLL.out] at h2; exact h2), fun _ hg => by
     have h1 := hg.1
     rw [Nat.add_sub_cancel, hok, hs] at h1
     simp at h1⟩
    rw [hs] at K1
    simp only [Vw.slotV, Option.getD_none, Option.isSome_none] at K1
    clear hok hsl hbd hs
    go_wp2_with fail
    obtain ⟨sw, sw2⟩ := SW.out
    go_region_held3 (fun w' => w'.cell? ⟨w.heap.size, 0, none⟩ = some (.int .i64 c) ∧ w'.cell? ⟨w.heap.size, 1, none⟩ = some (.int .i64 v) ∧ w'.cell? ⟨b, off + j * 6 + 5, none⟩ = some (.slice xA xn xc)) (go_keep) ((go_at_call 47; refine (K1.out _ HB.out.drew).mono ?_; rintro e wq ⟨rfl, bq⟩; replace c0 := Kit.cell_below bq c0; replace c1 := Kit.cell_below bq c1; replace m5 := Kit.cell_below bq m5; have B1 := Lib.hid (HB.out.drew.trans (bq.mono HB.out.drew.size)); clear bq))
    clear sw sw2
    go_wp2_with fail
    refine wp_region_held_drew (S := (fun w' => w'.cell? ⟨w.heap.size, 0, none⟩ = some (.int .i64 c) ∧ w'.cell? ⟨w.heap.size, 1, none⟩ = some (.int .i64 v) ∧ w'.cell? ⟨b, off + j * 6 + 5, none⟩ = some (.slice xA xn xc))) (by kernel_rfl) ?_ (fun hHeld => ?_)
    ·go_keep
    refine Rgn.tk 0 rfl ?_
    try simp only [Act.put, Rgn.a, Rgn.b, Rgn.c]
    refine Rgn.tk 1 rfl ?_
    try simp only [Act.put, Rgn.a, Rgn.b, Rgn.c]
    refine Rgn.tk 2 rfl ?_
    try simp only [Act.put, Rgn.a, Rgn.b, Rgn.c]
    refine Rgn.sk 3 rfl ?_
    try simp only [Act.put, Rgn.a, Rgn.b, Rgn.c]
    refine Rgn.sk 4 rfl ?_
    try simp only [Act.put, Rgn.a, Rgn.b, Rgn.c]
    refine Rgn.sk 5 rfl ?_
    try simp only [Act.put, Rgn.a, Rgn.b, Rgn.c]
    refine Rgn.sk 6 rfl ?_
    try simp only [Act.put, Rgn.a, Rgn.b, Rgn.c]
    refine Rgn.sk 7 rfl ?_
    try simp only [Act.put, Rgn.a, Rgn.b, Rgn.c]
    refine Rgn.sk 8 rfl ?_
    try simp only [Act.put, Rgn.a, Rgn.b, Rgn.c]
    refine Rgn.sk 9 rfl ?_
    try simp only [Act.put, Rgn.a, Rgn.b, Rgn.c]
    refine Rgn.sk 10 rfl ?_
    try simp only [Act.put, Rgn.a, Rgn.b, Rgn.c]
    refine Rgn.tk 11 rfl ?_
    try simp only [Act.put, Rgn.a, Rgn.b, Rgn.c]
    refine Rgn.tk 12 rfl ?_
    try simp only [Act.put, Rgn.a, Rgn.b, Rgn.c]
    refine Rgn.sk 13 rfl ?_
    try simp only [Act.put, Rgn.a, Rgn.b, Rgn.c]
    refine Rgn.sk 14 rfl ?_
    try simp only [Act.put, Rgn.a, Rgn.b, Rgn.c]
    refine Rgn.sk 15 rfl ?_
    try simp only [Act.put, Rgn.a, Rgn.b, Rgn.c]
    refine Rgn.sk 16 rfl ?_
    try simp only [Act.put, Rgn.a, Rgn.b, Rgn.c]
    refine Rgn.sk 17 rfl ?_
    try simp only [Act.put, Rgn.a, Rgn.b, Rgn.c]
    refine Rgn.sk 18 rfl ?_
    try simp only [Act.put, Rgn.a, Rgn.b, Rgn.c]
    refine Rgn.sk 19 rfl ?_
    try simp only [Act.put, Rgn.a, Rgn.b, Rgn.c]
    refine Rgn.sk 20 rfl ?_
    try simp only [Act.put, Rgn.a, Rgn.b, Rgn.c]
    refine Rgn.sk 21 rfl ?_
    try simp only [Act.put, Rgn.a, Rgn.b, Rgn.c]
    refine Rgn.tk 22 rfl ?_
    try simp only [Act.put, Rgn.a, Rgn.b, Rgn.c]
    refine wpAnyH_done (by kernel_rfl) ?_ _
    have B1 := Lib.hid B1.out.drew
    by_cases hz : j + 1 = len
    ·have hz' : ((j : Int) + 1 == (len : Int)) = true := beq_iff_eq.2 (by omega)
     have HV : Hid (Sy.thereV l (j + 1) = .tuple #[.int .i64 0, .bool false]) := Lib.hid (by unfold Sy.thereV; rw [HLL.out, if_pos hz, decide_eq_false (by omega)])
     clear hz
     go_wp2_with fail
     go_ret2
     exact ⟨j + 1, HAt.out, by rw [HV.out]; first | done | rfl, B1.out⟩
    ·have hz' : ((j : Int) + 1 == (len : Int)) = false := beq_eq_false_iff_ne.2 (by omega)
     have HV : Hid (Sy.thereV l (j + 1) = .tuple #[.int .i64 ((j : Int) + 1), .bool true]) := Lib.hid (by unfold Sy.thereV; rw [HLL.out, if_neg hz, decide_eq_true hz]; rfl)
     go_wp2_with fail
     go_ret2
     exact ⟨j + 1, HAt.out, by rw [HV.out]; first | done | rfl, B1.out⟩
   | some p =>
    obtain ⟨hp0, hp1⟩ := hbd p hs
    rw [hs] at K1
    simp only [Vw.slotV, Option.getD_some, Option.isSome_some] at K1
    cases ha : Vw.all c v xs with
    | false =>
     have HAt : Hid (Sy.IsAt n c v l (j + 1)) := Lib.hid ⟨by rw [HLL.out]; exact hk, fun i h1 h2 => HG.out i h1 (by rw [HLL.out] at h2; exact h2), fun _ hg => by
      have h1 := hg.1
      rw [Nat.add_sub_cancel, hok, hs, ha] at h1
      simp at h1⟩
     rw [ha] at K2
     clear hok hsl hbd hs ha
     go_wp2_with fail
     obtain ⟨sw, sw2⟩ := SW.out
     go_region_held3 (fun w' => w'.cell? ⟨w.heap.size, 0, none⟩ = some (.int .i64 c) ∧ w'.cell? ⟨w.heap.size, 1, none⟩ = some (.int .i64 v) ∧ w'.cell? ⟨b, off + j * 6 + 5, none⟩ = some (.slice xA xn xc)) (go_keep) ((go_at_call 47; refine (K1.out _ HB.out.drew).mono ?_; rintro e wq ⟨rfl, bq⟩; replace c0 := Kit.cell_below bq c0; replace c1 := Kit.cell_below bq c1; replace m5 := Kit.cell_below bq m5; have B1 := Lib.hid (HB.out.drew.trans (bq.mono HB.out.drew.size)); clear bq))
     go_wp2_with fail
     refine wp_region_held_drew (S := (fun w' => w'.cell? ⟨w.heap.size, 0, none⟩ = some (.int .i64 c) ∧ w'.cell? ⟨w.heap.size, 1, none⟩ = some (.int .i64 v) ∧ w'.cell? ⟨b, off + j * 6 + 5, none⟩ = some (.slice xA xn xc))) (by kernel_rfl) ?_ (fun hHeld => ?_)
     ·go_keep
     refine Rgn.tk 0 rfl ?_
     try simp only [Act.put, Rgn.a, Rgn.b, Rgn.c]
     refine Rgn.tk 1 rfl ?_
     try simp only [Act.put, Rgn.a, Rgn.b, Rgn.c]
     refine Rgn.tk 2 rfl ?_
     try simp only [Act.put, Rgn.a, Rgn.b, Rgn.c]
     refine Rgn.tk 3 rfl ?_
     try simp only [Act.put, Rgn.a, Rgn.b, Rgn.c]
     refine Rgn.tk 4 rfl ?_
     try simp only [Act.put, Rgn.a, Rgn.b, Rgn.c]
     refine Rgn.tk 5 rfl ?_
     try simp only [Act.put, Rgn.a, Rgn.b, Rgn.c]
     refine Rgn.tk 6 rfl ?_
     try simp only [Act.put, Rgn.a, Rgn.b, Rgn.c]
     refine Rgn.tk 7 rfl ?_
     try simp only [Act.put, Rgn.a, Rgn.b, Rgn.c]
     refine Rgn.tk 8 rfl ?_
     try simp only [Act.put, Rgn.a, Rgn.b, Rgn.c]
     refine Rgn.one 9 rfl (by kernel_rfl) (fun K hK => ?_)
     go_simp
     refine (K2.out _ B1.out.drew).mono ?_
     rintro e wp ⟨rfl, bp⟩
     replace c0 := Kit.cell_below bp c0
     replace c1 := Kit.cell_below bp c1
     replace m5 := Kit.cell_below bp m5
     have B2 := Lib.hid (B1.out.drew.trans (bp.mono B1.out.drew.size))
     clear bp
     go_simp
     refine hK.out _ _ ?_ (fun hHeld => ?_)
     ·go_keep
     clear hK K
     try simp only [Act.put, Rgn.a, Rgn.b, Rgn.c]
     refine Rgn.tk 10 rfl ?_
     try simp only [Act.put, Rgn.a, Rgn.b, Rgn.c]
     refine Rgn.tk 11 rfl ?_
     try simp only [Act.put, Rgn.a, Rgn.b, Rgn.c]
     refine Rgn.tk 12 rfl ?_
     try simp only [Act.put, Rgn.a, Rgn.b, Rgn.c]
     refine Rgn.sk 13 rfl ?_
     try simp only [Act.put, Rgn.a, Rgn.b, Rgn.c]
     refine Rgn.sk 14 rfl ?_
     try simp only [Act.put, Rgn.a, Rgn.b, Rgn.c]
     refine Rgn.sk 15 rfl ?_
     try simp only [Act.put, Rgn.a, Rgn.b, Rgn.c]
     refine Rgn.sk 16 rfl ?_
     try simp only [Act.put, Rgn.a, Rgn.b, Rgn.c]
     refine Rgn.sk 17 rfl ?_
     try simp only [Act.put, Rgn.a, Rgn.b, Rgn.c]
     refine Rgn.sk 18 rfl ?_
     try simp only [Act.put, Rgn.a, Rgn.b, Rgn.c]
     refine Rgn.sk 19 rfl ?_
     try simp only [Act.put, Rgn.a, Rgn.b, Rgn.c]
     refine Rgn.sk 20 rfl ?_
     try simp only [Act.put, Rgn.a, Rgn.b, Rgn.c]
     refine Rgn.sk 21 rfl ?_
     try simp only [Act.put, Rgn.a, Rgn.b, Rgn.c]
     refine Rgn.tk 22 rfl ?_
     try simp only [Act.put, Rgn.a, Rgn.b, Rgn.c]
     refine wpAnyH_done (by kernel_rfl) ?_ _
     clear sw sw2
     by_cases hz : j + 1 = len
     ·have hz' : ((j : Int) + 1 == (len : Int)) = true := beq_iff_eq.2 (by omega)
      have HV : Hid (Sy.thereV l (j + 1) = .tuple #[.int .i64 0, .bool false]) := Lib.hid (by unfold Sy.thereV; rw [HLL.out, if_pos hz, decide_eq_false (by omega)])
      clear hz
      go_wp2_with fail
      go_ret2
      exact ⟨j + 1, HAt.out, by rw [HV.out]; first | done | rfl, B2.out⟩
     ·have hz' : ((j : Int) + 1 == (len : Int)) = false := beq_eq_false_iff_ne.2 (by omega)
      have HV : Hid (Sy.thereV l (j + 1) = .tuple #[.int .i64 ((j : Int) + 1), .bool true]) := Lib.hid (by unfold Sy.thereV; rw [HLL.out, if_neg hz, decide_eq_true hz]; rfl)
      go_wp2_with fail
      go_ret2
      exact ⟨j + 1, HAt.out, by rw [HV.out]; first | done | rfl, B2.out⟩
    | true =>
     rw [ha] at K2
     by_cases hkl : j + 1 = len
     ·obtain rfl := HQ.out.1 hkl
      have HG2 : Hid (∀ (i : Nat), j ≤ i → i < len → Sy.Good n c v l i) := Lib.hid fun i h1 h2 => by
       obtain rfl : i = j := by omega
       refine ⟨by rw [hok, hs, ha]; rfl, fun h3 => absurd h3 (by rw [HLL.out]; omega)⟩
      have HQ2 : Hid ((j = len → p = -1) ∧ (j < len → 0 ≤ p ∧ Sy.slotAt c v l j = some p)) := Lib.hid ⟨fun h => absurd h (by omega), fun _ => ⟨hp0, by rw [hsl, hs]⟩⟩
      clear hok hsl hbd hs ha hkl
      go_wp2_with fail
      obtain ⟨sw, sw2⟩ := SW.out
      go_region_held3 (fun w' => w'.cell? ⟨w.heap.size, 0, none⟩ = some (.int .i64 c) ∧ w'.cell? ⟨w.heap.size, 1, none⟩ = some (.int .i64 v) ∧ w'.cell? ⟨b, off + j * 6 + 5, none⟩ = some (.slice xA xn xc)) (go_keep) ((go_at_call 47; refine (K1.out _ HB.out.drew).mono ?_; rintro e wq ⟨rfl, bq⟩; replace c0 := Kit.cell_below bq c0; replace c1 := Kit.cell_below bq c1; replace m5 := Kit.cell_below bq m5; have B1 := Lib.hid (HB.out.drew.trans (bq.mono HB.out.drew.size)); clear bq))
      go_wp2_with fail
      refine wp_region_held_drew (S := (fun w' => w'.cell? ⟨w.heap.size, 0, none⟩ = some (.int .i64 c) ∧ w'.cell? ⟨w.heap.size, 1, none⟩ = some (.int .i64 v) ∧ w'.cell? ⟨b, off + j * 6 + 5, none⟩ = some (.slice xA xn xc))) (by kernel_rfl) ?_ (fun hHeld => ?_)
      ·go_keep
      refine Rgn.tk 0 rfl ?_
      try simp only [Act.put, Rgn.a, Rgn.b, Rgn.c]
      refine Rgn.tk 1 rfl ?_
      try simp only [Act.put, Rgn.a, Rgn.b, Rgn.c]
      refine Rgn.tk 2 rfl ?_
      try simp only [Act.put, Rgn.a, Rgn.b, Rgn.c]
      refine Rgn.tk 3 rfl ?_
      try simp only [Act.put, Rgn.a, Rgn.b, Rgn.c]
      refine Rgn.tk 4 rfl ?_
      try simp only [Act.put, Rgn.a, Rgn.b, Rgn.c]
      refine Rgn.tk 5 rfl ?_
      try simp only [Act.put, Rgn.a, Rgn.b, Rgn.c]
      refine Rgn.tk 6 rfl ?_
      try simp only [Act.put, Rgn.a, Rgn.b, Rgn.c]
      refine Rgn.tk 7 rfl ?_
      try simp only [Act.put, Rgn.a, Rgn.b, Rgn.c]
      refine Rgn.tk 8 rfl ?_
      try simp only [Act.put, Rgn.a, Rgn.b, Rgn.c]
      refine Rgn.one 9 rfl (by kernel_rfl) (fun K hK => ?_)
      go_simp
      refine (K2.out _ B1.out.drew).mono ?_
      rintro e wp ⟨rfl, bp⟩
      replace c0 := Kit.cell_below bp c0
      replace c1 := Kit.cell_below bp c1
      replace m5 := Kit.cell_below bp m5
      have B2 := Lib.hid (B1.out.drew.trans (bp.mono B1.out.drew.size))
      clear bp
      go_simp
      refine hK.out _ _ ?_ (fun hHeld => ?_)
      ·go_keep
      clear hK K
      try simp only [Act.put, Rgn.a, Rgn.b, Rgn.c]
      refine Rgn.tk 10 rfl ?_
      try simp only [Act.put, Rgn.a, Rgn.b, Rgn.c]
      refine Rgn.tk 11 rfl ?_
      try simp only [Act.put, Rgn.a, Rgn.b, Rgn.c]
      refine Rgn.tk 12 rfl ?_
      try simp only [Act.put, Rgn.a, Rgn.b, Rgn.c]
      refine Rgn.tk 13 rfl ?_
      try simp only [Act.put, Rgn.a, Rgn.b, Rgn.c]
      refine Rgn.tk 14 rfl ?_
      try simp only [Act.put, Rgn.a, Rgn.b, Rgn.c]
      refine Rgn.tk 15 rfl ?_
      try simp only [Act.put, Rgn.a, Rgn.b, Rgn.c]
      refine Rgn.sk 16 rfl ?_
      try simp only [Act.put, Rgn.a, Rgn.b, Rgn.c]
      refine Rgn.sk 17 rfl ?_
      try simp only [Act.put, Rgn.a, Rgn.b, Rgn.c]
      refine Rgn.sk 18 rfl ?_
      try simp only [Act.put, Rgn.a, Rgn.b, Rgn.c]
      refine Rgn.sk 19 rfl ?_
      try simp only [Act.put, Rgn.a, Rgn.b, Rgn.c]
      refine Rgn.sk 20 rfl ?_
      try simp only [Act.put, Rgn.a, Rgn.b, Rgn.c]
      refine Rgn.tk 21 rfl ?_
      try simp only [Act.put, Rgn.a, Rgn.b, Rgn.c]
      refine Rgn.tk 22 rfl ?_
      try simp only [Act.put, Rgn.a, Rgn.b, Rgn.c]
      refine wpAnyH_done (by kernel_rfl) ?_ _
      clear sw sw2
      go_wp2_with fail
      go_roundw
      case rel => exact ⟨j, p, by omega, by go_num, by go_num, rfl, HQ2, c0, c1, B2, HG2⟩
      case measure => first | (simp [intOf]; done) | (simp [intOf]; omega)
     ·obtain ⟨hq0, hq1⟩ := HQ.out.2 (by omega)
      have kn := fun W => Sy.nextl_calls (n : Int) p W (by omega) (by omega) ⟨hp0, hp1⟩
      by_cases hq : q = Wm.nx n p
      ·have HG2 : Hid (∀ (i : Nat), j ≤ i → i < len → Sy.Good n c v l i) := Lib.hid fun i h1 h2 => by
        by_cases e : i = j
        ·subst e
         refine ⟨by rw [hok, hs, ha]; rfl, fun h3 p' hp' => ?_⟩
         rw [hsl, hs] at hp'
         injection hp' with hp'
         rw [hq1, hq, hp']
        ·exact HG.out i (by omega) h2
       have HQ2 : Hid ((j = len → p = -1) ∧ (j < len → 0 ≤ p ∧ Sy.slotAt c v l j = some p)) := Lib.hid ⟨fun h => absurd h (by omega), fun _ => ⟨hp0, by rw [hsl, hs]⟩⟩
       have g1 : decide (0 ≤ q) = true := decide_eq_true hq0
       have g2 : (q != Wm.nx n p) = false := by rw [bne_eq_false_iff_eq]; exact hq
       clear hok hsl hbd hs ha hkl hq0 hq1 hq
       generalize Wm.nx n p = r at *
       go_wp2_with fail
       obtain ⟨sw, sw2⟩ := SW.out
       go_region_held3 (fun w' => w'.cell? ⟨w.heap.size, 0, none⟩ = some (.int .i64 c) ∧ w'.cell? ⟨w.heap.size, 1, none⟩ = some (.int .i64 v) ∧ w'.cell? ⟨b, off + j * 6 + 5, none⟩ = some (.slice xA xn xc)) (go_keep) ((go_at_call 47; refine (K1.out _ HB.out.drew).mono ?_; rintro e wq ⟨rfl, bq⟩; replace c0 := Kit.cell_below bq c0; replace c1 := Kit.cell_below bq c1; replace m5 := Kit.cell_below bq m5; have B1 := Lib.hid (HB.out.drew.trans (bq.mono HB.out.drew.size)); clear bq))
       go_wp2_with fail
       go_region_held3 (fun w' => w'.cell? ⟨w.heap.size, 0, none⟩ = some (.int .i64 c) ∧ w'.cell? ⟨w.heap.size, 1, none⟩ = some (.int .i64 v) ∧ w'.cell? ⟨b, off + j * 6 + 5, none⟩ = some (.slice xA xn xc)) (go_keep) (first | (go_at_call 48; refine (K2.out _ B1.out.drew).mono ?_; rintro e wp ⟨rfl, bp⟩; replace c0 := Kit.cell_below bp c0; replace c1 := Kit.cell_below bp c1; replace m5 := Kit.cell_below bp m5; have B2 := Lib.hid (B1.out.drew.trans (bp.mono B1.out.drew.size)); clear bp) | (go_at_call 49; refine (kn _).mono ?_; rintro e wn ⟨rfl, rfl⟩))
       clear sw sw2
       go_wp2_with fail
       go_roundw
       case rel => exact ⟨j, p, by omega, by go_num, by go_num, rfl, HQ2, c0, c1, B2, HG2⟩
       case measure => first | (simp [intOf]; done) | (simp [intOf]; omega)
      ·have HAt : Hid (Sy.IsAt n c v l (j + 1)) := Lib.hid ⟨by rw [HLL.out]; exact hk, fun i h1 h2 => HG.out i h1 (by rw [HLL.out] at h2; exact h2), fun _ hg => by
        have h1 := hg.2 (by rw [HLL.out]; omega) p (by rw [Nat.add_sub_cancel, hsl, hs])
        rw [Nat.add_sub_cancel, hq1] at h1
        injection h1 with h1
        exact hq h1⟩
       have g1 : decide (0 ≤ q) = true := decide_eq_true hq0
       have g2 : (q != Wm.nx n p) = true := by rw [bne_iff_ne]; exact hq
       clear hok hsl hbd hs ha hq0 hq1 hq
       generalize Wm.nx n p = r at *
       go_wp2_with fail
       obtain ⟨sw, sw2⟩ := SW.out
       go_region_held3 (fun w' => w'.cell? ⟨w.heap.size, 0, none⟩ = some (.int .i64 c) ∧ w'.cell? ⟨w.heap.size, 1, none⟩ = some (.int .i64 v) ∧ w'.cell? ⟨b, off + j * 6 + 5, none⟩ = some (.slice xA xn xc)) (go_keep) ((go_at_call 47; refine (K1.out _ HB.out.drew).mono ?_; rintro e wq ⟨rfl, bq⟩; replace c0 := Kit.cell_below bq c0; replace c1 := Kit.cell_below bq c1; replace m5 := Kit.cell_below bq m5; have B1 := Lib.hid (HB.out.drew.trans (bq.mono HB.out.drew.size)); clear bq))
       go_wp2_with fail
       go_region_held3 (fun w' => w'.cell? ⟨w.heap.size, 0, none⟩ = some (.int .i64 c) ∧ w'.cell? ⟨w.heap.size, 1, none⟩ = some (.int .i64 v) ∧ w'.cell? ⟨b, off + j * 6 + 5, none⟩ = some (.slice xA xn xc)) (go_keep) (first | (go_at_call 48; refine (K2.out _ B1.out.drew).mono ?_; rintro e wp ⟨rfl, bp⟩; replace c0 := Kit.cell_below bp c0; replace c1 := Kit.cell_below bp c1; replace m5 := Kit.cell_below bp m5; have B2 := Lib.hid (B1.out.drew.trans (bp.mono B1.out.drew.size)); clear bp) | (go_at_call 49; refine (kn _).mono ?_; rintro e wn ⟨rfl, rfl⟩))
       clear sw sw2
       have hz : ¬ j + 1 = len := by omega
       have hz' : ((j : Int) + 1 == (len : Int)) = false := beq_eq_false_iff_ne.2 (by omega)
       have hz'' : (j + 1 == len) = false := beq_eq_false_iff_ne.2 (by omega)
       have HV : Hid (Sy.thereV l (j + 1) = .tuple #[.int .i64 ((j : Int) + 1), .bool true]) := Lib.hid (by unfold Sy.thereV; rw [HLL.out, if_neg (by omega), decide_eq_true (by omega)]; rfl)
       go_wp2_with fail
       go_ret2
       exact ⟨j + 1, HAt.out, by rw [HV.out]; first | done | rfl, B2.out⟩
end Go.Proofs.YtgiojagdmglinaaGreatDoor
namespace Go.Proofs.YtgiojagdmglinaaGreatDoor
open Go Go.RowKit
namespace Qk
open Ru
def z (n T t : Nat) : Sc := ⟨n, none, 0, 0, [], 0, 0, false, none, 0, 0, [], Hb.zero, Hb.zero, some ⟨T, 0, none⟩, t, t, List.replicate t default⟩
theorem made (t : Nat) : (madeCells #[Value.string ⟨#[]⟩, .string ⟨#[]⟩, .slice none 0 0, .int .i64 0] (t * 4)).toList = ((List.replicate t (default : Ch)).map Ch.cells).flatten := by
 induction t with
 | zero => simp [madeCells]
 | succ t ih =>
  have h1 : (madeCells #[Value.string ⟨#[]⟩, .string ⟨#[]⟩, .slice none 0 0, .int .i64 0] ((t + 1) * 4)).toList = (madeCells #[Value.string ⟨#[]⟩, .string ⟨#[]⟩, .slice none 0 0, .int .i64 0] (t * 4)).toList ++ (default : Ch).cells := by
   unfold madeCells
   simp only [Array.toList_map, Array.toList_range]
   rw [show (t + 1) * 4 = t * 4 + 1 + 1 + 1 + 1 by omega, List.range_succ, List.range_succ, List.range_succ, List.range_succ]
   simp only [List.map_append, List.map_cons, List.map_nil, List.append_assoc, List.cons_append, List.nil_append]
   congr 1
   have e0 : t * 4 % 4 = 0 := by omega
   have e1 : (t * 4 + 1) % 4 = 1 := by omega
   have e2 : (t * 4 + 1 + 1) % 4 = 2 := by omega
   have e3 : (t * 4 + 1 + 1 + 1) % 4 = 3 := by omega
   simp only [List.size_toArray, List.length_cons, List.length_nil, Nat.zero_add, Nat.reduceAdd, e0, e1, e2, e3]
   rfl
  rw [h1, ih, List.replicate_succ', List.map_append, List.flatten_append]
  simp
theorem chs_row {w : World} {T t : Nat} (h : Kit.Row w T (madeCells #[.string ⟨#[]⟩, .string ⟨#[]⟩, .slice none 0 0, .int .i64 0] (t * 4)).toList) : Chs w (some ⟨T, 0, none⟩) t (List.replicate t default) where
 lies := ⟨by simp, fun _ => ⟨T, 0, rfl, h.lt, fun j c hj i v hi => by
  have hk : ∀ c ∈ (List.replicate t (default : Ch)).map Ch.cells, c.length = 4 := by
   intro c hc
   obtain ⟨x, _, rfl⟩ := List.mem_map.1 hc
   rfl
  have h1 := flat_get 4 _ hk j c hj i v hi
  rw [← made] at h1
  rw [Nat.zero_add]
  exact h.at_ _ _ h1⟩⟩
 there := fun ch hch => by
  rw [List.mem_replicate] at hch
  rw [hch.2]
  exact ⟨by decide, by decide, ⟨rfl, fun h => absurd h (by decide)⟩, by decide⟩
theorem chInfo : (Tryz.prog.info? 53).map (fun i => (i.zero, i.size, i.bytes)) = some (some (.agg #[.string ⟨#[]⟩, .string ⟨#[]⟩, .slice none 0 0, .int .i64 0]), 4, 64) := by kernel_rfl
theorem mk_ticks (t : Nat) (ht : t ≤ 1000) (W : World) : (Instr.makeSlice 30 (.int .i64 (t : Int)) (.int .i64 (t : Int))).run Tryz.prog W = .ok (.slice (some ⟨W.heap.size, 0, none⟩) t t) (W.alloc (.cells (madeCells #[.string ⟨#[]⟩, .string ⟨#[]⟩, .slice none 0 0, .int .i64 0] (t * 4)) 53)) := by
 obtain ⟨i0, hi, hz0, hz1, hz2⟩ := info_parts chInfo
 have hr := run_make (P := Tryz.prog) W 30 53 i0 _ Tryz.underlying30 hi hz0 .i64 .i64 (t : Int) (t : Int) (by omega) (by omega) (by rw [hz2]; omega) (by omega)
 simp only [hz1, Int.toNat_natCast] at hr
 exact hr
section
variable (n T t p G : Nat) (h3 : 3 ≤ n) (h8 : n ≤ 8)
theorem zc : (Sw.start n (z n T t) p G).c = 0 := by
 show (if Flt.may n 0 0 = true then (0 : Int) else 0) = 0
 split <;> rfl
theorem zv : (Sw.start n (z n T t) p G).v = 0 := by
 show (if Flt.may n 0 0 = true then (0 : Int) else 0) = 0
 split <;> rfl
include h3 h8
theorem run_at (k : Nat) : (Sw.wat (Sw.start n (z n T t) p G) (z n T t).ticks k).nodes = (Ma.run n (Pc.clean n []) (first n) k).xs :=
 Ru.wat_nodes (Sw.start_right n _ p G h3 h8) _ rfl (by rw [zc]; decide) k
theorem said_at (k : Nat) : (Sw.r0 (Sw.wat (Sw.start n (z n T t) p G) (z n T t).ticks k) ((z n T t).ticks.getD k default)).2 = Ma.said n (Ma.run n (Pc.clean n []) (first n) k) :=
 Ru.wat_said (Sw.start_right n _ p G h3 h8) _ rfl (by rw [zc]; decide) k
theorem cs_at (k : Nat) (hk : k < 310) (h : 4 * n + 2 ≤ k) : isCs (Sw.r0 (Sw.wat (Sw.start n (z n T t) p G) (z n T t).ticks k) ((z n T t).ticks.getD k default)).2 = (decide (k = 4 * n + 2) || decide (k = 6 * n + 4)) := by
 rw [said_at n T t p G h3 h8]
 have hs := so_all n h3 h8 k hk
 unfold so at hs
 simp only [Bool.and_eq_true, Bool.or_eq_true, decide_eq_true_eq] at hs
 rcases hs.1.1 with h' | h'
 ·omega
 ·exact eq_of_beq h'
variable {ads : List (Nat × Nat)} (hl : ads.length = t) (h6 : 6 * n + 6 ≤ t) (h9 : t ≤ 309)
include hl h6 h9
omit h6 h9 in
theorem ok_at (k : Nat) (hk : k < t) : Sy.ok 0 0 ((Sw.lks (Sw.start n (z n T t) p G) (z n T t).ticks ads).getD k default) = ok (Ma.run n (Pc.clean n []) (first n) (k + 1)).xs := by
 have e := nodesAt_lks (Sw.start n (z n T t) p G) (z n T t).ticks ads k (by omega)
 rw [run_at n T t p G h3 h8] at e
 unfold Sy.ok ok
 unfold Sy.nodesAt at e
 rw [e]
theorem is_at : Sy.IsAt n 0 0 (Sw.lks (Sw.start n (z n T t) p G) (z n T t).ticks ads) (6 * n + 5) where
 le := by rw [Sw.lks_len]; omega
 good := fun k h1 hk => by
  rw [Sw.lks_len, hl] at hk
  have hs := so_all n h3 h8 k (by omega)
  unfold so at hs
  simp only [Bool.and_eq_true, Bool.or_eq_true, decide_eq_true_eq] at hs
  have h2 := hs.2
  rcases h2 with h2 | ⟨h2, h4⟩
  ·omega
  ·refine ⟨by rw [ok_at n T t p G h3 h8 hl k hk]; exact h2, fun hk1 q hq => ?_⟩
   rw [Sw.lks_len, hl] at hk1
   have ea := nodesAt_lks (Sw.start n (z n T t) p G) (z n T t).ticks ads k (by omega)
   have eb := nodesAt_lks (Sw.start n (z n T t) p G) (z n T t).ticks ads (k + 1) (by omega)
   rw [run_at n T t p G h3 h8] at ea eb
   unfold Sy.slotAt at hq ⊢
   rw [ea] at hq
   rw [eb]
   have h5 : Vw.slot 0 0 (Ma.run n (Pc.clean n []) (first n) (k + 1 + 1)).xs = (Vw.slot 0 0 (Ma.run n (Pc.clean n []) (first n) (k + 1)).xs).map (Wm.nx n) := h4
   rw [h5, hq]
   rfl
 least := fun _ hg => by
  have hs := so_all n h3 h8 (6 * n + 4) (by omega)
  unfold so at hs
  simp only [Bool.and_eq_true, Bool.or_eq_true, decide_eq_true_eq] at hs
  have h1 := hg.1
  rw [show 6 * n + 5 - 1 = 6 * n + 4 by omega, ok_at n T t p G h3 h8 hl (6 * n + 4) (by omega)] at h1
  have h2 := hs.1.2
  have h1' : ok ((Ma.run n (Pc.clean n []) (first n) (6 * n + 4)).next n (Pc.clean n [])).xs = true := h1
  rw [h1'] at h2
  simp at h2
omit h6 in
theorem may_ : Sy.Mayl n 0 0 (Sw.lks (Sw.start n (z n T t) p G) (z n T t).ticks ads) where
 lo := h3
 hi := h8
 most := by rw [Sw.lks_len]; omega
 slot := fun {k} {q} hk hq => by
  rw [Sw.lks_len] at hk
  unfold Sy.slotAt at hq
  rw [nodesAt_lks _ _ _ _ hk] at hq
  obtain ⟨y, hy, rfl⟩ := Sy.slot_mem hq
  have hr := Sw.wat_right (Sw.start_right n (z n T t) p G h3 h8) (z n T t).ticks (k + 1)
  obtain ⟨i, hi, rfl⟩ := List.getElem_of_mem hy
  have hin : i < (Sw.wat (Sw.start n (z n T t) p G) (z n T t).ticks (k + 1)).n := by rw [← hr.nl]; exact hi
  have h := (hr.nd i hin).ps
  unfold ndAt at h
  rw [List.getD_eq_getElem?_getD, List.getElem?_eq_getElem hi, Sw.wat_n] at h
  exact h
omit h3 h6 h9 hl in
theorem len_n : ∀ y ∈ Sw.lks (Sw.start n (z n T t) p G) (z n T t).ticks ads, y.n ≤ 1000000 := by
 intro y hy
 obtain ⟨k, hk, rfl⟩ := List.mem_mapIdx.1 hy
 show n ≤ 1000000
 omega
end
end Qk
end Go.Proofs.YtgiojagdmglinaaGreatDoor
