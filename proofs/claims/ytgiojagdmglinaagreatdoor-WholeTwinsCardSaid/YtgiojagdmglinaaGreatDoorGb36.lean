/-
  Part 36 of a merged text.
-/
import Derived.Test.YtgiojagdmglinaaGreatDoorGb35
import Derived.Test.YtgiojagdmglinaaGreatDoorGb27
import Derived.Test.YtgiojagdmglinaaGreatDoorGb02
import Derived.Test.YtgiojagdmglinaaGreatDoorGb30
set_option linter.unusedVariables false
set_option linter.unusedSimpArgs false
set_option maxRecDepth 100000
namespace Go.Proofs.YtgiojagdmglinaaGreatDoor
open Go.RowKit
def Vw.sel (q : Nat → Bool) (k : Nat) : List Nat := (List.range k).filter q
theorem Vw.sel_succ (q : Nat → Bool) (k : Nat) : Vw.sel q (k + 1) = Vw.sel q k ++ if q k = true then [k] else [] := by
 unfold Vw.sel
 rw [List.range_succ, List.filter_append]
 congr 1
 by_cases h : q k = true
 ·rw [if_pos h]; exact List.filter_cons_of_pos h
 ·rw [if_neg h]; exact List.filter_cons_of_neg h
theorem Vw.sel_len (q : Nat → Bool) (k : Nat) : (Vw.sel q k).length ≤ k := by
 have := List.length_filter_le q (List.range k)
 simpa [Vw.sel] using this
theorem Vw.sel_active (c v : Int) (l : List Nd) : Vw.sel (Vw.isB c v l) l.length = Vw.active c v l := by
 unfold Vw.sel Vw.active Vw.places
 apply List.filter_congr
 intro i hi
 have hi' : i < l.length := by simpa using hi
 unfold Vw.isB
 rw [decide_eq_true hi']
 simp [Bool.and_comm]
theorem Vw.sel_changed (c v : Int) (l m : List Nd) : Vw.sel (fun i => Vw.isB c v l i && !Vw.isB c v m i) l.length = Vw.changed c v l m := by
 unfold Vw.sel Vw.changed Vw.places
 apply List.filter_congr
 intro i hi
 have hi' : i < l.length := by simpa using hi
 unfold Vw.isB
 rw [decide_eq_true hi']
 dsimp only
 by_cases hm : i < m.length
 ·rw [decide_eq_true hm, decide_eq_false (show ¬ m.length ≤ i by omega)]
  cases Vw.act i (l.getD i Nd.zero) <;> cases Vw.fnode c v i <;> cases Vw.act i (m.getD i Nd.zero) <;> rfl
 ·rw [decide_eq_false hm, decide_eq_true (show m.length ≤ i by omega)]
  cases Vw.act i (l.getD i Nd.zero) <;> cases Vw.fnode c v i <;> rfl
set_option maxHeartbeats 1000000 in
theorem Vw.ractive_calls (c v : Int) (A : Option Addr) (n cap : Nat) (l : List Nd) (w : World) (hl : Nodes w A n l) (hn : n ≤ 1000000) :
  Calls Tryz.prog 19 #[.agg #[.int .i64 c, .int .i64 v], .slice A n cap] w (Vw.Row w (Vw.active c v l)) := by
 have hres : Vw.sel (Vw.isB c v l) n = Vw.active c v l := by rw [← hl.len]; exact Vw.sel_active c v l
 obtain ⟨i0, hi, hz0, hz1, hz2⟩ := info_parts Vw.infoInt
 have HR := Lib.hid hres
 have HL := Lib.hid hl
 clear hl hres
 go_enter Tryz.func19, Tryz.ntmps19
 go_wp2_with fail
 go_loopw [5, 6] (fun vo vi wr => ∃ k : Nat, k ≤ n ∧ vi = .int .i64 k ∧ wr.ownsRow (w.heap.size + 1) 3 1 vo (Vw.sel (Vw.isB c v l) k).length (Vw.ints (Vw.sel (Vw.isB c v l) k)) ∧ wr.cell? ⟨w.heap.size, 0, none⟩ = some (.int .i64 c) ∧ wr.cell? ⟨w.heap.size, 1, none⟩ = some (.int .i64 v) ∧ Hid (Below w.heap.size w wr))
  (fun _ vi _ => n - (intOf vi).toNat)
 case atStart => exact ⟨0, by omega, rfl, World.ownsRow_nil _ _ _ _, by go_simp, by go_simp, Lib.hid ((Below.refl _ _).alloc (Nat.le_refl _) _)⟩
 case round =>
  obtain ⟨k, hk, rfl, hown, hc0, hc1, HB⟩ := hrel
  have hws : w.heap.size < wr.heap.size := World.block_lt_of_cell? wr ⟨w.heap.size, 0, none⟩ hc0
  by_cases hlt : k < n
  ·have hsucc := Vw.sel_succ (Vw.isB c v l) k
   have hplen := Vw.sel_len (Vw.isB c v l) k
   have cf : ∀ W, Below w.heap.size w W → _ := fun W hW => Vw.ris_calls c v A n cap l k W (HL.out.below hW) hn
   have ca := cf wr HB.out
   clear cf
   cases hq : Vw.isB c v l k with
   | false =>
    rw [hq] at ca hsucc
    have hs : Vw.sel (Vw.isB c v l) (k + 1) = Vw.sel (Vw.isB c v l) k := by rw [hsucc]; simp
    have HS := Lib.hid hs
    clear hs hsucc hq
    go_wp2_with fail
    refine ca.mono ?_
    rintro e w1 ⟨rfl, b1⟩
    have BB := Lib.hid b1
    clear b1
    go_wp2_with fail
    go_roundw
    case rel => exact ⟨k + 1, by omega, by go_num, by rw [HS.out]; exact Kit.own_below hown BB.out, Kit.cell_below BB.out hc0, Kit.cell_below BB.out hc1, Lib.hid (HB.out.trans (BB.out.mono HB.out.size))⟩
    case measure => simp [intOf]; omega
   | true =>
    rw [hq] at ca hsucc
    have hs : Vw.sel (Vw.isB c v l) (k + 1) = Vw.sel (Vw.isB c v l) k ++ [k] := by rw [hsucc]; simp
    have HS := Lib.hid hs
    clear hs hsucc hq
    go_wp2_with fail
    refine ca.mono ?_
    rintro e w2 ⟨rfl, b2⟩
    have BB := Lib.hid b2
    have hown2 := Kit.own_below hown BB.out
    have hsz2 := (HB.out.trans (BB.out.mono HB.out.size)).size
    have hsz3 : w.heap.size < w2.heap.size := Nat.lt_of_lt_of_le hws BB.out.size
    clear b2
    go_wp2_with (at_builtin; refine wpList_append_own _ rfl _ _ 22 rfl (w.heap.size + 1) 3 i0 (.int .i64 0) 1 8 Tryz.underlying22 hi hz0 hz1 hz2 rfl (by decide) _ _ _ rfl (hown2.alloc _) ⟨w2.heap.size, 0, none⟩ 1 1 [.int .i64 (k : Int)] rfl rfl ?c1 ?c2 ?c3 ?c4 ?c5 ?_)
    case c1 => exact cell_one_new _ _ _
    case c2 => intro u hu; simp at hu; subst hu; rfl
    case c3 => unfold maxLen; omega
    case c4 => omega
    case c5 => simp; omega
    ·intro v' w3 hown' hgrow _
     have hb7 := Kit.own_base hown2
     have bw2 := HB.out.trans (BB.out.mono HB.out.size)
     have b3 : Below w.heap.size w w3 := (bw2.alloc bw2.size _).grown hgrow (by have := bw2.size; simp; omega) (fun q hq => by have := hb7 q hq; omega)
     have d0 := Kit.grown_cell hgrow (b := w.heap.size) (o := 0) (v := .int .i64 c) (fun q hq => by have := hb7 q hq; omega) (by rw [World.cell?_alloc_past _ _ _ hsz3]; exact Kit.cell_below BB.out hc0)
     have d1 := Kit.grown_cell hgrow (b := w.heap.size) (o := 1) (v := .int .i64 v) (fun q hq => by have := hb7 q hq; omega) (by rw [World.cell?_alloc_past _ _ _ hsz3]; exact Kit.cell_below BB.out hc1)
     have B3 := Lib.hid b3
     clear b3 hown2 hgrow bw2 hb7
     go_wp2
     go_roundw
     case rel => exact ⟨k + 1, by omega, by go_num, by rw [HS.out, List.length_append]; unfold Vw.ints; rw [List.map_append]; exact hown', d0, d1, B3⟩
     case measure => simp [intOf]; omega
  ·obtain rfl : k = n := by omega
   go_wp2_with fail
   go_ret
   exact ⟨_, rfl, by rw [← HR.out]; exact Kit.own_weaken hown (by omega), HB.out⟩
set_option maxHeartbeats 1000000 in
theorem Vw.rchanged_calls (c v : Int) (A A2 : Option Addr) (n cap n2 cap2 : Nat) (l m : List Nd) (w : World) (hl : Nodes w A n l) (hm : Nodes w A2 n2 m) (hn : n ≤ 1000000) (hn2 : n2 ≤ 1000000) :
  Calls Tryz.prog 53 #[.agg #[.int .i64 c, .int .i64 v], .slice A n cap, .slice A2 n2 cap2] w (Vw.Row w (Vw.changed c v l m)) := by
 have hres : Vw.sel (fun i => Vw.isB c v l i && !Vw.isB c v m i) n = Vw.changed c v l m := by rw [← hl.len]; exact Vw.sel_changed c v l m
 obtain ⟨i0, hi, hz0, hz1, hz2⟩ := info_parts Vw.infoInt
 have HR := Lib.hid hres
 have HL := Lib.hid hl
 have HM := Lib.hid hm
 clear hl hres hm
 go_enter Tryz.func53, Tryz.ntmps53
 go_wp2_with fail
 go_loopw [7, 8] (fun vo vi wr => ∃ k : Nat, k ≤ n ∧ vi = .int .i64 k ∧ wr.ownsRow (w.heap.size + 1) 3 1 vo (Vw.sel (fun i => Vw.isB c v l i && !Vw.isB c v m i) k).length (Vw.ints (Vw.sel (fun i => Vw.isB c v l i && !Vw.isB c v m i) k)) ∧ wr.cell? ⟨w.heap.size, 0, none⟩ = some (.int .i64 c) ∧ wr.cell? ⟨w.heap.size, 1, none⟩ = some (.int .i64 v) ∧ Hid (Below w.heap.size w wr))
  (fun _ vi _ => n - (intOf vi).toNat)
 case atStart => exact ⟨0, by omega, rfl, World.ownsRow_nil _ _ _ _, by go_simp, by go_simp, Lib.hid ((Below.refl _ _).alloc (Nat.le_refl _) _)⟩
 case round =>
  obtain ⟨k, hk, rfl, hown, hc0, hc1, HB⟩ := hrel
  have hws : w.heap.size < wr.heap.size := World.block_lt_of_cell? wr ⟨w.heap.size, 0, none⟩ hc0
  by_cases hlt : k < n
  ·have hsucc := Vw.sel_succ (fun i => Vw.isB c v l i && !Vw.isB c v m i) k
   have hplen := Vw.sel_len (fun i => Vw.isB c v l i && !Vw.isB c v m i) k
   have cf : ∀ W, Below w.heap.size w W → _ := fun W hW => Vw.ris_calls c v A n cap l k W (HL.out.below hW) hn
   have cg : ∀ W, Below w.heap.size w W → _ := fun W hW => Vw.ris_calls c v A2 n2 cap2 m k W (HM.out.below hW) hn2
   have ca := cf wr HB.out
   clear cf
   cases hq : Vw.isB c v l k with
   | false =>
    rw [hq] at ca
    have hs : Vw.sel (fun i => Vw.isB c v l i && !Vw.isB c v m i) (k + 1) = Vw.sel (fun i => Vw.isB c v l i && !Vw.isB c v m i) k := by rw [hsucc]; simp [hq]
    have HS := Lib.hid hs
    clear hs hsucc hq cg
    go_wp2_with fail
    refine ca.mono ?_
    rintro e w1 ⟨rfl, b1⟩
    have BB := Lib.hid b1
    clear b1
    go_wp2_with fail
    go_roundw
    case rel => exact ⟨k + 1, by omega, by go_num, by rw [HS.out]; exact Kit.own_below hown BB.out, Kit.cell_below BB.out hc0, Kit.cell_below BB.out hc1, Lib.hid (HB.out.trans (BB.out.mono HB.out.size))⟩
    case measure => simp [intOf]; omega
   | true =>
    rw [hq] at ca
    cases hq2 : Vw.isB c v m k with
    | true =>
     rw [hq2] at cg
     have hs : Vw.sel (fun i => Vw.isB c v l i && !Vw.isB c v m i) (k + 1) = Vw.sel (fun i => Vw.isB c v l i && !Vw.isB c v m i) k := by rw [hsucc]; simp [hq2]
     have HS := Lib.hid hs
     clear hs hsucc hq hq2
     go_wp2_with fail
     refine ca.mono ?_
     rintro e w1 ⟨rfl, b1⟩
     have cb := cg w1 (HB.out.trans (b1.mono HB.out.size))
     have e0 := Kit.cell_below b1 hc0
     have e1 := Kit.cell_below b1 hc1
     have B1 := Lib.hid b1
     clear b1 cg
     go_wp2_with fail
     refine cb.mono ?_
     rintro e w2 ⟨rfl, b2⟩
     have BB := Lib.hid (Kit.chain B1.out b2)
     clear b2
     go_wp2_with fail
     go_roundw
     case rel => exact ⟨k + 1, by omega, by go_num, by rw [HS.out]; exact Kit.own_below hown BB.out, Kit.cell_below BB.out hc0, Kit.cell_below BB.out hc1, Lib.hid (HB.out.trans (BB.out.mono HB.out.size))⟩
     case measure => simp [intOf]; omega
    | false =>
     rw [hq2] at cg
     have hs : Vw.sel (fun i => Vw.isB c v l i && !Vw.isB c v m i) (k + 1) = Vw.sel (fun i => Vw.isB c v l i && !Vw.isB c v m i) k ++ [k] := by rw [hsucc]; simp [hq, hq2]
     have HS := Lib.hid hs
     clear hs hsucc hq hq2
     go_wp2_with fail
     refine ca.mono ?_
     rintro e w1 ⟨rfl, b1⟩
     have cb := cg w1 (HB.out.trans (b1.mono HB.out.size))
     have e0 := Kit.cell_below b1 hc0
     have e1 := Kit.cell_below b1 hc1
     have B1 := Lib.hid b1
     clear b1 cg
     go_wp2_with fail
     refine cb.mono ?_
     rintro e w2 ⟨rfl, b2⟩
     have BB := Lib.hid (Kit.chain B1.out b2)
     have hown2 := Kit.own_below hown BB.out
     have hsz2 := (HB.out.trans (BB.out.mono HB.out.size)).size
     have hsz3 : w.heap.size < w2.heap.size := Nat.lt_of_lt_of_le hws BB.out.size
     clear b2
     go_wp2_with (at_builtin; refine wpList_append_own _ rfl _ _ 22 rfl (w.heap.size + 1) 3 i0 (.int .i64 0) 1 8 Tryz.underlying22 hi hz0 hz1 hz2 rfl (by decide) _ _ _ rfl (hown2.alloc _) ⟨w2.heap.size, 0, none⟩ 1 1 [.int .i64 (k : Int)] rfl rfl ?c1 ?c2 ?c3 ?c4 ?c5 ?_)
     case c1 => exact cell_one_new _ _ _
     case c2 => intro u hu; simp at hu; subst hu; rfl
     case c3 => unfold maxLen; omega
     case c4 => omega
     case c5 => simp; omega
     ·intro v' w3 hown' hgrow _
      have hb7 := Kit.own_base hown2
      have bw2 := HB.out.trans (BB.out.mono HB.out.size)
      have b3 : Below w.heap.size w w3 := (bw2.alloc bw2.size _).grown hgrow (by have := bw2.size; simp; omega) (fun q hq => by have := hb7 q hq; omega)
      have d0 := Kit.grown_cell hgrow (b := w.heap.size) (o := 0) (v := .int .i64 c) (fun q hq => by have := hb7 q hq; omega) (by rw [World.cell?_alloc_past _ _ _ hsz3]; exact Kit.cell_below BB.out hc0)
      have d1 := Kit.grown_cell hgrow (b := w.heap.size) (o := 1) (v := .int .i64 v) (fun q hq => by have := hb7 q hq; omega) (by rw [World.cell?_alloc_past _ _ _ hsz3]; exact Kit.cell_below BB.out hc1)
      have B3 := Lib.hid b3
      clear b3 hown2 hgrow bw2 hb7
      go_wp2
      go_roundw
      case rel => exact ⟨k + 1, by omega, by go_num, by rw [HS.out, List.length_append]; unfold Vw.ints; rw [List.map_append]; exact hown', d0, d1, B3⟩
      case measure => simp [intOf]; omega
  ·obtain rfl : k = n := by omega
   go_wp2_with fail
   go_ret
   exact ⟨_, rfl, by rw [← HR.out]; exact Kit.own_weaken hown (by omega), HB.out⟩
theorem Vw.slot_of_all {c v : Int} {l : List Nd} {p : Nat} {r : List Nat} (h : Vw.active c v l = p :: r) (ha : ∀ (j x : Nat), (p :: r)[j]? = some x → (Vw.psAt l x != Vw.psAt l p) = false) : Vw.slot c v l = some (Vw.psAt l p) := by
 rw [Vw.slot_cons h]
 have : (p :: r).any (fun i => Vw.psAt l i != Vw.psAt l p) = false := by
  rw [List.any_eq_false]
  intro x hx
  obtain ⟨j, hj⟩ := List.mem_iff_getElem?.1 hx
  rw [ha j x hj]
  simp
 rw [this]
 rfl
theorem Vw.slot_of_one {c v : Int} {l : List Nd} {p : Nat} {r : List Nat} (h : Vw.active c v l = p :: r) {j x : Nat} (hj : (p :: r)[j]? = some x) (ha : (Vw.psAt l x != Vw.psAt l p) = true) : Vw.slot c v l = none := by
 rw [Vw.slot_cons h]
 have : (p :: r).any (fun i => Vw.psAt l i != Vw.psAt l p) = true := by
  rw [List.any_eq_true]
  exact ⟨x, List.mem_of_getElem? hj, ha⟩
 rw [this]
 rfl
set_option maxHeartbeats 1000000 in
theorem Vw.rslot_calls (c v : Int) (A : Option Addr) (n cap : Nat) (l : List Nd) (w : World) (hl : Nodes w A n l) (hn : n ≤ 1000000) :
  Calls Tryz.prog 52 #[.agg #[.int .i64 c, .int .i64 v], .slice A n cap] w fun e w' => e = .returned (Vw.slotV (Vw.slot c v l)) ∧ Below w.heap.size w w' := by
 have b0 : Below w.heap.size w (w.alloc (.cells #[.int .i64 c, .int .i64 v] 24)) := (Below.refl w.heap.size w).alloc (Nat.le_refl _) _
 have c1 := Vw.ractive_calls c v A n cap l _ (hl.below b0) hn
 have HB0 := Lib.hid b0
 have HL := Lib.hid hl
 clear hl b0
 cases hact : Vw.active c v l with
 | nil =>
  rw [Vw.slot_nil hact]
  rw [hact] at c1
  clear hact
  go_enter Tryz.func52, Tryz.ntmps52
  go_wp2_with fail
  refine c1.mono ?_
  rintro e w1 ⟨v1, rfl, hown, b1⟩
  obtain ⟨A1, cap1, rfl, _⟩ := Vw.Ints.of_own hown
  have B1 := Lib.hid (Kit.chain HB0.out b1)
  clear hown b1
  go_wp2_with fail
  refine wp_loop_rounds 1 ?_
  rw [rounds_succ]
  go_wp2_with fail
  go_ret2
  exact ⟨rfl, B1.out⟩
 | cons p r =>
  have hmem : ∀ x ∈ p :: r, x < n := fun x hx => by
   have h1 : x ∈ Vw.active c v l := by rw [hact]; exact hx
   have := Vw.mem_places (c := c) (v := v) (so := Vw.act) (l := l) (k := l.length) (i := x) h1
   rw [HL.out.len] at this
   exact this
  have hpn : p < n := hmem p (by simp)
  have hlen : (p :: r).length ≤ n := by
   have := Vw.places_len c v Vw.act l l.length
   rw [HL.out.len] at this
   rw [← hact]
   unfold Vw.active
   rw [HL.out.len]
   exact this
  have HM := Lib.hid hmem
  have HS1 : Hid ((∀ (j x : Nat), (p :: r)[j]? = some x → (Vw.psAt l x != Vw.psAt l p) = false) → Vw.slot c v l = some (Vw.psAt l p)) := Lib.hid (Vw.slot_of_all hact)
  have HS2 : Hid (∀ (j x : Nat), (p :: r)[j]? = some x → (Vw.psAt l x != Vw.psAt l p) = true → Vw.slot c v l = none) := Lib.hid (fun j x hj ha => Vw.slot_of_one hact hj ha)
  have hkl : p < l.length := by rw [HL.out.len]; exact hpn
  obtain ⟨x, hx⟩ : ∃ x, l[p]? = some x := ⟨_, List.getElem?_eq_getElem hkl⟩
  have hxd : Vw.psAt l p = x.ps := by unfold Vw.psAt; rw [List.getD_eq_getElem?_getD, hx]; rfl
  rw [hxd] at HS1 HS2
  have HXX := Lib.hid hx
  rw [hact] at c1
  clear hact hmem hx hxd
  have hlp : 0 < (p :: r).length := by simp
  have hp0 : (p :: r)[0]? = some p := rfl
  have HP0 := Lib.hid hp0
  clear hp0
  generalize hpr : p :: r = pl at *
  clear hpr
  have hz : ((pl.length : Int) == 0) = false := by rw [beq_eq_false_iff_ne]; omega
  go_enter Tryz.func52, Tryz.ntmps52
  go_wp2_with fail
  refine c1.mono ?_
  rintro e w1 ⟨v1, rfl, hown, b1⟩
  obtain ⟨A1, cap1, rfl, hint⟩ := Vw.Ints.of_own hown
  obtain ⟨g1, off1, rfl, hg1, hcells⟩ := hint.at_ (by omega)
  obtain ⟨b, off, rfl, hb, hrow⟩ := HL.out.row (by omega)
  have bw1 : Below w.heap.size w w1 := Kit.chain HB0.out b1
  have r3 := Kit.cell_below bw1 (hrow p x HXX.out).2.2.2
  have m0 := hcells 0 p HP0.out
  rw [Nat.add_zero] at m0
  have HC : Hid (∀ (j x : Nat), pl[j]? = some x → w1.cell? ⟨g1, off1 + j, none⟩ = some (.int .i64 (x : Int))) := Lib.hid hcells
  have HRW := Lib.hid hrow
  have HI := Lib.hid hint
  have BW1 := Lib.hid bw1
  clear hown b1 hcells hrow bw1 hint
  go_wp2_with fail
  go_loopw [7] (fun vi wr => ∃ k : Nat, k ≤ pl.length ∧ vi = .int .i64 k ∧ Hid (∀ (j y : Nat), j < k → pl[j]? = some y → (Vw.psAt l y != x.ps) = false) ∧ Hid (Below w1.heap.size w1 wr)) (fun vi _ => pl.length - (intOf vi).toNat)
  case atStart => exact ⟨0, by omega, rfl, Lib.hid (fun j y h => absurd h (by omega)), Lib.hid (Below.refl _ _)⟩
  case round =>
   obtain ⟨k, hk, rfl, HA, HB⟩ := hrel
   have n0 := Kit.cell_below HB.out m0
   have n3 := Kit.cell_below HB.out r3
   by_cases hlt : k < pl.length
   ·obtain ⟨y, hy⟩ : ∃ y, pl[k]? = some y := ⟨_, List.getElem?_eq_getElem hlt⟩
    have hyn := HM.out y (List.mem_of_getElem? hy)
    have hyl : y < l.length := by rw [HL.out.len]; exact hyn
    obtain ⟨z, hz2⟩ : ∃ z, l[y]? = some z := ⟨_, List.getElem?_eq_getElem hyl⟩
    have hzd : Vw.psAt l y = z.ps := by unfold Vw.psAt; rw [List.getD_eq_getElem?_getD, hz2]; rfl
    have n1 := Kit.cell_below HB.out (HC.out k y hy)
    have n2 := Kit.cell_below HB.out (Kit.cell_below BW1.out (HRW.out y z hz2).2.2.2)
    have HY := Lib.hid hy
    have HZ := Lib.hid hzd
    clear hy hz2 hzd m0 r3
    cases hq : (z.ps != x.ps) with
    | true =>
     have hres : Vw.slot c v l = none := HS2.out k y HY.out (by rw [HZ.out]; exact hq)
     have HRes := Lib.hid hres
     clear hres
     go_wp2_with fail
     go_quiet (fail)
     go_wp2_with fail
     go_ret2
     exact ⟨by rw [HRes.out]; rfl, BW1.out.trans ((HB.out.trans ((Kit.below_drewN _ _).mono HB.out.size)).mono BW1.out.size)⟩
    | false =>
     have hA2 : Hid (∀ (j y : Nat), j < k + 1 → pl[j]? = some y → (Vw.psAt l y != x.ps) = false) := Lib.hid (fun j y' hj hy' => by
      by_cases e : j = k
      ·subst e; rw [HY.out] at hy'; injection hy' with hy'; rw [← hy', HZ.out]; exact hq
      ·exact HA.out j y' (by omega) hy')
     go_wp2_with fail
     go_quiet (fail)
     go_wp2_with fail
     go_roundw
     case rel => exact ⟨k + 1, by omega, by go_num, hA2, Lib.hid (HB.out.trans ((Kit.below_drewN _ _).mono HB.out.size))⟩
     case measure => simp [intOf]; omega
   ·obtain rfl : k = pl.length := by omega
    have hres : Vw.slot c v l = some x.ps := HS1.out (fun j y hj => HA.out j y (List.getElem?_eq_some_iff.1 hj).1 hj)
    have HRes := Lib.hid hres
    clear hres m0 r3
    go_wp2_with fail
    go_ret2
    exact ⟨by rw [HRes.out]; rfl, BW1.out.trans (HB.out.mono BW1.out.size)⟩
end Go.Proofs.YtgiojagdmglinaaGreatDoor
namespace Go.Proofs.YtgiojagdmglinaaGreatDoor
open Go.RowKit
end Go.Proofs.YtgiojagdmglinaaGreatDoor
namespace Go.Proofs.YtgiojagdmglinaaGreatDoor
open Go.RowKit
namespace Vw
def ex : List Nd := [⟨0, 3, 0, 1⟩, ⟨1, 3, 0, 2⟩]
theorem ex_slot0 : slot 0 0 ex = none := by decide +kernel
theorem ex_slot1 : slot 1 1 ex = some 1 := by decide +kernel
theorem ex_active : active 0 0 ex = [0, 1] := by decide +kernel
theorem ex_all : all 0 0 ex = true := by decide +kernel
end Vw
namespace Vw
theorem changed_filter (c v : Int) (l m : List Nd) : changed c v l m = (active c v l).filter fun i => decide (m.length ≤ i) || !act i (m.getD i Nd.zero) := by
 unfold changed active places
 rw [List.filter_filter]
 apply List.filter_congr
 intro i _
 dsimp only
 cases fnode c v i <;> cases act i (l.getD i Nd.zero) <;> cases (decide (m.length ≤ i) || !act i (m.getD i Nd.zero)) <;> rfl
theorem changed_self (c v : Int) (l : List Nd) : changed c v l l = [] := by
 rw [changed_filter, List.filter_eq_nil_iff]
 intro i hi
 have hl := mem_places (c := c) (v := v) (so := act) (l := l) (k := l.length) hi
 have ha : act i (l.getD i Nd.zero) = true := by
  have := (List.mem_filter.1 hi).2
  simp only [Bool.and_eq_true] at this
  exact this.2
 rw [ha, decide_eq_false (show ¬ l.length ≤ i by omega)]
 simp
theorem changed_all (c v : Int) (l m : List Nd) (hlen : l.length ≤ m.length) (ha : all c v m = true) : changed c v l m = [] := by
 rw [changed_filter, List.filter_eq_nil_iff]
 intro i hi
 have hl := mem_places (c := c) (v := v) (so := act) (l := l) (k := l.length) hi
 have hf : fnode c v i = false := by
  have := (List.mem_filter.1 hi).2
  simp only [Bool.and_eq_true, Bool.not_eq_true'] at this
  exact this.1
 have hact : act i (m.getD i Nd.zero) = true := by
  cases h : act i (m.getD i Nd.zero) with
  | true => rfl
  | false =>
   exfalso
   have h1 : i ∈ places c v (fun i x => !act i x) m m.length := by
    unfold places
    rw [List.mem_filter]
    refine ⟨by simp; omega, ?_⟩
    dsimp only
    rw [hf, h]
    rfl
   have h2 : (places c v (fun i x => !act i x) m m.length).length = 0 := by unfold all at ha; simpa using ha
   rw [List.eq_nil_of_length_eq_zero h2] at h1
   simp at h1
 rw [hact, decide_eq_false (show ¬ m.length ≤ i by omega)]
 simp
theorem step_yes (q : Nat → Bool) (on : List Nat) (i x : Nat) (hx : on[i]? = some x) (hq : q x = true) :
  ((on.take (i + 1)).filter q).length = ((on.take i).filter q).length + 1 ∧ (on.filter q)[((on.take i).filter q).length]? = some x := by
 obtain ⟨hi, he⟩ := List.getElem?_eq_some_iff.1 hx
 have h1 : on.take (i + 1) = on.take i ++ [x] := by rw [List.take_succ_eq_append_getElem hi, he]
 have h2 : (on.take (i + 1)).filter q = (on.take i).filter q ++ [x] := by rw [h1, List.filter_append, List.filter_cons_of_pos hq, List.filter_nil]
 refine ⟨by rw [h2, List.length_append]; rfl, ?_⟩
 have h3 : on.filter q = (on.take (i + 1)).filter q ++ (on.drop (i + 1)).filter q := by rw [← List.filter_append, List.take_append_drop]
 rw [h3, h2, List.append_assoc, List.getElem?_append_right (Nat.le_refl _), Nat.sub_self]
 rfl
theorem step_no (q : Nat → Bool) (on : List Nat) (i x : Nat) (hx : on[i]? = some x) (hq : q x = false) :
  ((on.take (i + 1)).filter q).length = ((on.take i).filter q).length ∧ ∀ y, (on.filter q)[((on.take i).filter q).length]? = some y → y ≠ x := by
 obtain ⟨hi, he⟩ := List.getElem?_eq_some_iff.1 hx
 have h1 : on.take (i + 1) = on.take i ++ [x] := by rw [List.take_succ_eq_append_getElem hi, he]
 have h2 : (on.take (i + 1)).filter q = (on.take i).filter q := by rw [h1, List.filter_append, List.filter_cons_of_neg (by rw [hq]; simp), List.filter_nil, List.append_nil]
 refine ⟨by rw [h2], fun y hy e => ?_⟩
 have := (List.mem_filter.1 (List.mem_of_getElem? hy)).2
 rw [e, hq] at this
 simp at this
theorem take_le (q : Nat → Bool) (on : List Nat) (i : Nat) : ((on.take i).filter q).length ≤ (on.filter q).length := by
 have h3 : on.filter q = (on.take i).filter q ++ (on.drop i).filter q := by rw [← List.filter_append, List.take_append_drop]
 rw [h3, List.length_append]
 omega
end Vw
end Go.Proofs.YtgiojagdmglinaaGreatDoor
namespace Go.Proofs.YtgiojagdmglinaaGreatDoor
open Go.RowKit
instance : Inhabited Nd := ⟨Nd.zero⟩
namespace Sy
def parts (c v : Int) (x : Lk) : Bool := (!(Vw.active c v x.nodes).isEmpty) && (Vw.slot c v x.nodes).isNone
def ok (c v : Int) (x : Lk) : Bool := (Vw.slot c v x.nodes).isSome && Vw.all c v x.nodes
def nodesAt (l : List Lk) (k : Nat) : List Nd := (l.getD k default).nodes
def slotAt (c v : Int) (l : List Lk) (k : Nat) : Option Int := Vw.slot c v (nodesAt l k)
def Good (n : Nat) (c v : Int) (l : List Lk) (k : Nat) : Prop := ok c v (l.getD k default) = true ∧ (k + 1 < l.length → ∀ p, slotAt c v l k = some p → slotAt c v l (k + 1) = some (Wm.nx n p))
structure IsAt (n : Nat) (c v : Int) (l : List Lk) (a : Nat) : Prop where
 le : a ≤ l.length
 good : ∀ k, a ≤ k → k < l.length → Good n c v l k
 least : 0 < a → ¬ Good n c v l (a - 1)
theorem IsAt.unique {n : Nat} {c v : Int} {l : List Lk} {a b : Nat} (h : IsAt n c v l a) (k : IsAt n c v l b) : a = b := by
 rcases Nat.lt_trichotomy a b with e | e | e
 ·exact absurd (h.good (b - 1) (by omega) (by have := k.le; omega)) (k.least (by omega))
 ·exact e
 ·exact absurd (k.good (a - 1) (by omega) (by have := h.le; omega)) (h.least (by omega))
def thereV (l : List Lk) (a : Nat) : Value := .tuple #[.int .i64 (if a = l.length then 0 else (a : Int)), .bool (decide (a ≠ l.length))]
def firstV (o : Option Nat) : Value := .tuple #[.int .i64 ((o.getD 0 : Nat) : Int), .bool o.isSome]
def split (c v : Int) (l : List Lk) : Option Nat := l.findIdx? (parts c v)
def leftAt (c v : Int) (l : List Lk) (k : Nat) : Bool := decide (0 < k) && !(Vw.changed c v (nodesAt l (k - 1)) (nodesAt l k)).isEmpty
def leaves (c v : Int) (l : List Lk) : Option Nat := (List.range l.length).find? (leftAt c v l)
theorem split_hit {c v : Int} {l : List Lk} {k : Nat} {x : Lk} (hx : l[k]? = some x) (hp : parts c v x = true) (h : ∀ (j : Nat) (y : Lk), j < k → l[j]? = some y → parts c v y = false) : split c v l = some k := by
 unfold split
 rw [List.findIdx?_eq_some_iff_getElem]
 obtain ⟨hk, he⟩ := List.getElem?_eq_some_iff.1 hx
 refine ⟨hk, by rw [he]; exact hp, fun j hj => ?_⟩
 rw [h j _ hj (List.getElem?_eq_getElem (by omega))]
 simp
theorem split_miss {c v : Int} {l : List Lk} (h : ∀ (j : Nat) (y : Lk), l[j]? = some y → parts c v y = false) : split c v l = none := by
 unfold split
 rw [List.findIdx?_eq_none_iff]
 intro x hx
 obtain ⟨j, hj⟩ := List.mem_iff_getElem?.1 hx
 exact h j x hj
theorem leaves_hit {c v : Int} {l : List Lk} {k : Nat} (hk : k < l.length) (hp : leftAt c v l k = true) (h : ∀ j, j < k → leftAt c v l j = false) : leaves c v l = some k := by
 unfold leaves
 rw [List.find?_range_eq_some]
 exact ⟨hp, List.mem_range.2 hk, fun j hj => by rw [h j hj]; rfl⟩
theorem leaves_miss {c v : Int} {l : List Lk} (h : ∀ j, j < l.length → leftAt c v l j = false) : leaves c v l = none := by
 unfold leaves
 rw [List.find?_eq_none]
 intro j hj
 rw [h j (List.mem_range.1 hj)]
 simp
theorem getD_of {l : List Lk} {k : Nat} {x : Lk} (h : l[k]? = some x) : l.getD k default = x := by rw [List.getD_eq_getElem?_getD, h]; rfl
theorem nodesAt_of {l : List Lk} {k : Nat} {x : Lk} (h : l[k]? = some x) : nodesAt l k = x.nodes := by unfold nodesAt; rw [getD_of h]
theorem slotAt_of {c v : Int} {l : List Lk} {k : Nat} {x : Lk} (h : l[k]? = some x) : slotAt c v l k = Vw.slot c v x.nodes := by unfold slotAt; rw [nodesAt_of h]
theorem slot_mem {c v : Int} {l : List Nd} {p : Int} (h : Vw.slot c v l = some p) : ∃ z ∈ l, p = z.ps := by
 unfold Vw.slot at h
 split at h
 ·cases h
 ·rename_i i r he
  split at h
  ·cases h
  ·injection h with h
   have hi : i ∈ Vw.active c v l := by rw [he]; simp
   have hl := Vw.mem_places hi
   refine ⟨l.getD i Nd.zero, ?_, h.symm⟩
   rw [List.getD_eq_getElem?_getD, List.getElem?_eq_getElem hl]
   exact List.getElem_mem hl
theorem slot_none {c v : Int} {l : List Nd} (h : (Vw.active c v l).isEmpty = true) : Vw.slot c v l = none := by
 unfold Vw.slot
 rw [List.isEmpty_iff.1 h]
theorem changed_nil {c v : Int} {l m : List Nd} (hlen : l.length = m.length) (h : Vw.all c v m = true) : Vw.changed c v l m = [] := by
 unfold Vw.all at h
 have h0 := List.eq_nil_of_length_eq_zero (by simpa using h : (Vw.places c v (fun i x => !Vw.act i x) m m.length).length = 0)
 unfold Vw.changed
 unfold Vw.places at h0 ⊢
 rw [List.filter_eq_nil_iff] at h0 ⊢
 intro i hi
 have h1 := h0 i (by rw [← hlen]; exact hi)
 have hi' := List.mem_range.1 hi
 simp only [Bool.and_eq_true, Bool.not_eq_true', Bool.or_eq_true, decide_eq_true_eq, not_and, not_or] at h1 ⊢
 intro hf ha
 refine ⟨by omega, ?_⟩
 exact h1 hf
structure May (n : Nat) (l : List Lk) : Prop where
 lo : 3 ≤ n
 hi : n ≤ 8
 most : l.length ≤ 60
 len : ∀ x ∈ l, x.nodes.length = n ∧ ∀ z ∈ x.nodes, 0 ≤ z.ps ∧ z.ps < n
theorem May.drop {n : Nat} {l : List Lk} (h : May n l) (k : Nat) : May n (l.drop k) := ⟨h.lo, h.hi, by have := h.most; simp; omega, fun x hx => h.len x (List.mem_of_mem_drop hx)⟩
theorem May.slot {n : Nat} {l : List Lk} (h : May n l) {c v : Int} {k : Nat} {p : Int} (hk : k < l.length) (hp : slotAt c v l k = some p) : 0 ≤ p ∧ p < n := by
 have hx : l[k]? = some l[k] := List.getElem?_eq_getElem hk
 rw [slotAt_of hx] at hp
 obtain ⟨z, hz, rfl⟩ := slot_mem hp
 exact (h.len _ (List.mem_of_getElem? hx)).2 z hz
theorem getD_drop (l : List Lk) (a k : Nat) : (l.drop a).getD k default = l.getD (a + k) default := by
 rw [List.getD_eq_getElem?_getD, List.getD_eq_getElem?_getD, List.getElem?_drop]
theorem slotAt_drop (c v : Int) (l : List Lk) (a k : Nat) : slotAt c v (l.drop a) k = slotAt c v l (a + k) := by unfold slotAt nodesAt; rw [getD_drop]
theorem good_drop {n : Nat} {c v : Int} {l : List Lk} {a k : Nat} (h : Good n c v l (a + k)) (hk : a + k < l.length) : Good n c v (l.drop a) k := by
 unfold Good at h ⊢
 rw [getD_drop, slotAt_drop, slotAt_drop]
 refine ⟨h.1, fun h1 p hp => ?_⟩
 exact h.2 (by simp at h1; omega) p hp
theorem at_drop {n : Nat} {c v : Int} {l : List Lk} {a b : Nat} (h : IsAt n c v l a) (hab : a ≤ b) (hb : b ≤ l.length) : IsAt n c v (l.drop b) 0 :=
 ⟨by omega, fun k _ hk => by have hk' : b + k < l.length := by simp at hk; omega
                             exact good_drop (h.good (b + k) (by omega) hk') hk', fun h0 => absurd h0 (by omega)⟩
theorem at_split {n : Nat} {c v : Int} {l : List Lk} {a : Nat} (h : IsAt n c v l a) : split c v (l.drop a) = none := by
 refine split_miss fun j y hy => ?_
 rw [List.getElem?_drop] at hy
 have hk := (List.getElem?_eq_some_iff.1 hy).1
 have hg := (h.good (a + j) (by omega) hk).1
 rw [getD_of hy] at hg
 unfold ok at hg
 unfold parts
 rw [Bool.and_eq_true] at hg
 have := hg.1
 cases hs : Vw.slot c v y.nodes with
 | none => rw [hs] at this; simp at this
 | some p => simp
theorem at_leaves {n : Nat} {c v : Int} {l : List Lk} {a : Nat} (hm : May n l) (h : IsAt n c v l a) : leaves c v (l.drop a) = none := by
 refine leaves_miss fun j hj => ?_
 unfold leftAt
 by_cases h0 : 0 < j
 ·have hj' : a + j < l.length := by simp at hj; omega
  have e1 : nodesAt (l.drop a) j = nodesAt l (a + j) := by unfold nodesAt; rw [getD_drop]
  have e2 : nodesAt (l.drop a) (j - 1) = nodesAt l (a + j - 1) := by unfold nodesAt; rw [getD_drop]; congr 2; omega
  have hg := (h.good (a + j) (by omega) hj').1
  unfold ok at hg
  rw [Bool.and_eq_true] at hg
  have hlen : ∀ k, k < l.length → (nodesAt l k).length = n := fun k hk => by
   have hx : l[k]? = some l[k] := List.getElem?_eq_getElem hk
   rw [nodesAt_of hx]
   exact (hm.len _ (List.mem_of_getElem? hx)).1
  have hc : Vw.changed c v (nodesAt l (a + j - 1)) (nodesAt l (a + j)) = [] := changed_nil (by rw [hlen _ (by omega), hlen _ hj']) hg.2
  rw [e1, e2, hc]
  simp
 ·rw [decide_eq_false h0]; rfl
theorem at_last {n : Nat} {c v : Int} {l : List Lk} {a : Nat} (h : IsAt n c v l a) (ha : a < l.length) : ok c v (l.getD (l.length - 1) default) = true := (h.good (l.length - 1) (by omega) (by omega)).1
theorem at_none {n : Nat} {c v : Int} {l : List Lk} (h : IsAt n c v l l.length) (hl : 0 < l.length) : ok c v (l.getD (l.length - 1) default) = false := by
 have := h.least hl
 cases e : ok c v (l.getD (l.length - 1) default) with
 | false => rfl
 | true => exact absurd ⟨e, fun h1 => absurd h1 (by omega)⟩ this
end Sy
end Go.Proofs.YtgiojagdmglinaaGreatDoor
namespace Go.Proofs.YtgiojagdmglinaaGreatDoor
namespace Ru
open Sw
theorem base_at {x : Wd} (hx : x.Right) (l : List Ch) (k : Nat) : Wm.Base x.n (F x.c x.v) (wat x l k).h0 (wat x l k).nodes := by
 have hr := wat_right hx l k
 have hn := wat_n x l k
 exact ⟨hx.lo, hx.hi, by have := hr.r0; rw [hn] at this; exact this, fun i hi => by have := hr.nd i (by rw [hn]; exact hi); rw [hn] at this; exact this, F_one _ _⟩
theorem tick_at {x : Wd} (hx : x.Right) (l : List Ch) (hh : x.h1 = x.h0) (k : Nat) : ∃ p, Wm.In x.n (F x.c x.v) (wat x l k).nodes p ∧ (wat x l (k + 1)).h0 = (Wm.hub x.n (wat x l k).h0 p).1 ∧
  (r0 (wat x l k) (l.getD k default)).2 = (Wm.hub x.n (wat x l k).h0 p).2 ∧ Wm.Out x.n (F x.c x.v) (wat x l k).nodes (Wm.hub x.n (wat x l k).h0 p).2 (wat x l (k + 1)).nodes := by
 have hr := wat_right hx l k
 have e := wat_r0 hx l hh k
 have hi := ins_in hr (l.getD k default)
 have ho := out_one hr (l.getD k default) (wat_r1 hx l hh k)
 rw [wat_n, wat_c, wat_v] at hi ho
 rw [e] at ho
 refine ⟨_, hi, ?_, by rw [e], ho⟩
 show (r0 (wat x l k) (l.getD k default)).1 = _
 rw [e]
theorem inv_at {x : Wd} (hx : x.Right) (l : List Ch) (hh : x.h1 = x.h0) (hA : Wm.InvA x.n (F x.c x.v) x.h0 x.nodes) : ∀ k, Wm.InvA x.n (F x.c x.v) (wat x l k).h0 (wat x l k).nodes ∨ ∃ j s e, Wm.InvB x.n (F x.c x.v) (wat x l k).h0 (wat x l k).nodes j s e
 | 0 => Or.inl hA
 | k + 1 => by
  obtain ⟨p, hi, h1, h2, ho⟩ := tick_at hx l hh k
  have B := base_at hx l k
  rw [h1]
  rcases inv_at hx l hh hA k with hA | ⟨j, s, e, hB⟩
  ·exact Wm.stepA B hi hA ho
  ·rcases (Wm.stepB B hi hB ho).then_ with ⟨_, ⟨e', h⟩, _⟩ | ⟨_, _, h⟩
   ·exact Or.inr ⟨_, _, _, h⟩
   ·exact Or.inr ⟨_, _, _, h⟩
theorem stay_at {x : Wd} (hx : x.Right) (l : List Ch) (hh : x.h1 = x.h0) (hA : Wm.InvA x.n (F x.c x.v) x.h0 x.nodes) (k i : Nat) (hi : i < x.n) (hf : F x.c x.v i = false) (h3 : (ndAt (wat x l k).nodes i).md = 3) :
  (ndAt (wat x l (k + 1)).nodes i).md = 3 := by
 obtain ⟨p, hp, h1, h2, ho⟩ := tick_at hx l hh k
 rcases inv_at hx l hh hA k with hA | ⟨j, s, e, hB⟩
 ·exact absurd h3 (hA i hi hf).1
 ·exact (Wm.stepB (base_at hx l k) hp hB ho).stay i hi hf h3
theorem same_at {x : Wd} (hx : x.Right) (l : List Ch) (hh : x.h1 = x.h0) (hA : Wm.InvA x.n (F x.c x.v) x.h0 x.nodes) (k i j : Nat) (hi : i < x.n) (hj : j < x.n) (hfi : F x.c x.v i = false) (hfj : F x.c x.v j = false)
  (h3 : (ndAt (wat x l k).nodes i).md = 3) (h3' : (ndAt (wat x l k).nodes j).md = 3) : (ndAt (wat x l k).nodes i).ps = (ndAt (wat x l k).nodes j).ps := by
 rcases inv_at hx l hh hA k with hA | ⟨j', s, e, hB⟩
 ·exact absurd h3 (hA i hi hfi).1
 ·rw [hB.ps i hi hfi h3, hB.ps j hj hfj h3']
theorem mem_act {c v : Int} {xs : List Nd} {i : Nat} (h : i ∈ Vw.active c v xs) : i < xs.length ∧ F c v i = false ∧ (ndAt xs i).md = 3 := by
 unfold Vw.active Vw.places at h
 obtain ⟨h1, h2⟩ := List.mem_filter.1 h
 unfold Vw.act at h2
 simp only [Bool.and_eq_true, Bool.not_eq_true', beq_iff_eq] at h2
 exact ⟨List.mem_range.1 h1, h2.1, h2.2⟩
theorem slot_of {c v : Int} {xs : List Nd} (h : ∀ i j, i ∈ Vw.active c v xs → j ∈ Vw.active c v xs → (ndAt xs i).ps = (ndAt xs j).ps) : ((!(Vw.active c v xs).isEmpty) && (Vw.slot c v xs).isNone) = false := by
 cases he : Vw.active c v xs with
 | nil => rfl
 | cons p r =>
  unfold Vw.slot
  rw [he] at h ⊢
  have hn : (p :: r).any (fun i => Vw.psAt xs i != Vw.psAt xs p) = false := by
   rw [List.any_eq_false]
   intro i hi
   have := h i p hi (by simp)
   unfold ndAt at this
   unfold Vw.psAt
   rw [this]
   simp
  simp only [hn]
  rfl
theorem parts_no {x : Wd} (hx : x.Right) (l : List Ch) (hh : x.h1 = x.h0) (hA : Wm.InvA x.n (F x.c x.v) x.h0 x.nodes) (ads : List (Nat × Nat)) : Sy.split x.c x.v (lks x l ads) = none := by
 refine Sy.split_miss fun k y hy => ?_
 unfold lks at hy
 rw [List.getElem?_mapIdx] at hy
 cases ha : ads[k]? with
 | none => rw [ha] at hy; cases hy
 | some p =>
  rw [ha] at hy
  injection hy with hy
  subst hy
  have hln : (wat x l (k + 1)).nodes.length = x.n := by rw [(wat_right hx l (k + 1)).nl, wat_n]
  refine slot_of fun i j hi hj => ?_
  obtain ⟨i1, i2, i3⟩ := mem_act hi
  obtain ⟨j1, j2, j3⟩ := mem_act hj
  have i1' : i < (wat x l (k + 1)).nodes.length := i1
  have j1' : j < (wat x l (k + 1)).nodes.length := j1
  exact same_at hx l hh hA (k + 1) i j (by omega) (by omega) i2 j2 i3 j3
theorem nodesAt_lks (x : Wd) (l : List Ch) (ads : List (Nat × Nat)) (k : Nat) (hk : k < ads.length) : Sy.nodesAt (lks x l ads) k = (wat x l (k + 1)).nodes := by
 have hp : ads[k]? = some ads[k] := List.getElem?_eq_getElem hk
 have hq : (lks x l ads)[k]? = some (lkAt x l k ads[k]) := by unfold lks; rw [List.getElem?_mapIdx, hp]; rfl
 rw [Sy.nodesAt_of hq]
 rfl
theorem leaves_no {x : Wd} (hx : x.Right) (l : List Ch) (hh : x.h1 = x.h0) (hA : Wm.InvA x.n (F x.c x.v) x.h0 x.nodes) (ads : List (Nat × Nat)) : Sy.leaves x.c x.v (lks x l ads) = none := by
 refine Sy.leaves_miss fun k hk => ?_
 rw [lks_len] at hk
 unfold Sy.leftAt
 by_cases h0 : 0 < k
 ·obtain ⟨m, rfl⟩ : ∃ m, k = m + 1 := ⟨k - 1, by omega⟩
  have e1 := nodesAt_lks x l ads m (by omega)
  have e2 := nodesAt_lks x l ads (m + 1) hk
  rw [show m + 1 - 1 = m by omega, e1, e2]
  have hl1 : (wat x l (m + 1)).nodes.length = x.n := by rw [(wat_right hx l (m + 1)).nl, wat_n]
  have hl2 : (wat x l (m + 1 + 1)).nodes.length = x.n := by rw [(wat_right hx l (m + 1 + 1)).nl, wat_n]
  have hn : Vw.changed x.c x.v (wat x l (m + 1)).nodes (wat x l (m + 1 + 1)).nodes = [] := by
   unfold Vw.changed Vw.places
   rw [List.filter_eq_nil_iff]
   intro i hi
   have hi' := List.mem_range.1 hi
   rw [hl1] at hi'
   unfold Vw.act
   simp only [Bool.and_eq_true, Bool.not_eq_true', Bool.or_eq_true, beq_iff_eq, decide_eq_true_eq, not_and, not_or]
   intro hf h3
   refine ⟨by omega, ?_⟩
   have := stay_at hx l hh hA (m + 1) i hi' hf h3
   unfold ndAt at this
   rw [this]
   decide
  rw [hn]
  simp
 ·rw [decide_eq_false h0]; rfl
theorem start_inv (n : Nat) (s : Sc) (p G : Nat) (h8 : n ≤ 8) : Wm.InvA (Sw.start n s p G).n (F (Sw.start n s p G).c (Sw.start n s p G).v) (Sw.start n s p G).h0 (Sw.start n s p G).nodes := by
 intro i hi _
 have hi' : i < n := hi
 refine ⟨?_, ?_⟩
 ·have e : ndAt (Sw.start n s p G).nodes i = Nw.off i := by
   show ndAt ((List.range n).map Nw.off) i = Nw.off i
   unfold ndAt
   simp [hi']
  rw [e]
  show (0 : Int) ≠ 3
  decide
 ·show (Wm.fresh n).ag i = n
  unfold Wm.fresh
  rw [Wm.eight_ag _ _ (by omega)]
  unfold Wm.most
  rw [if_pos hi']
end Ru
end Go.Proofs.YtgiojagdmglinaaGreatDoor
