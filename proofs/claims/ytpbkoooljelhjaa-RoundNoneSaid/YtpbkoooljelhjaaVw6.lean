/-
  The walks of the document's answer, second part: daybreakref20.Active, Changed, Slot, Modes.
-/
import Derived.Test.YtpbkoooljelhjaaVw5
namespace Go.Proofs.Ytpbkoooljelhjaa
set_option linter.unusedVariables false
set_option linter.unusedSimpArgs false
open Go.RowKit

/-- Which of the first k places are so. -/
def Vw.sel (q : Nat → Bool) (k : Nat) : List Nat := (List.range k).filter q
theorem Vw.sel_succ (q : Nat → Bool) (k : Nat) : Vw.sel q (k + 1) = Vw.sel q k ++ if q k = true then [k] else [] := by
  unfold Vw.sel
  rw [List.range_succ, List.filter_append]
  congr 1
  by_cases h : q k = true
  · rw [if_pos h]; exact List.filter_cons_of_pos h
  · rw [if_neg h]; exact List.filter_cons_of_neg h
theorem Vw.sel_len (q : Nat → Bool) (k : Nat) : (Vw.sel q k).length ≤ k := by
  have := List.length_filter_le q (List.range k)
  simpa [Vw.sel] using this
theorem Vw.sel_active (c v : Int) (l : List Nd) : Vw.sel (Vw.isB c v l) l.length = Vw.active c v l := by
  unfold Vw.sel Vw.active Vw.places
  apply List.filter_congr
  intro i hi
  have hi' : i < l.length := by simpa using hi
  unfold Vw.isB
  rw [decide_eq_true hi']
  simp [Bool.and_comm]
theorem Vw.sel_changed (c v : Int) (l m : List Nd) : Vw.sel (fun i => Vw.isB c v l i && !Vw.isB c v m i) l.length = Vw.changed c v l m := by
  unfold Vw.sel Vw.changed Vw.places
  apply List.filter_congr
  intro i hi
  have hi' : i < l.length := by simpa using hi
  unfold Vw.isB
  rw [decide_eq_true hi']
  dsimp only
  by_cases hm : i < m.length
  · rw [decide_eq_true hm, decide_eq_false (show ¬ m.length ≤ i by omega)]
    cases Vw.act i (l.getD i Nd.zero) <;> cases Vw.fnode c v i <;> cases Vw.act i (m.getD i Nd.zero) <;> rfl
  · rw [decide_eq_false hm, decide_eq_true (show m.length ≤ i by omega)]
    cases Vw.act i (l.getD i Nd.zero) <;> cases Vw.fnode c v i <;> rfl

set_option maxHeartbeats 1000000 in
set_option maxRecDepth 100000 in
theorem Vw.ractive_calls (c v : Int) (A : Option Addr) (n cap : Nat) (l : List Nd) (w : World) (hl : Nodes w A n l) (hn : n ≤ 1000000) :
    Calls Try.prog 40 #[.agg #[.int .i64 c, .int .i64 v], .slice A n cap] w (Vw.Row w (Vw.active c v l)) := by
  have hres : Vw.sel (Vw.isB c v l) n = Vw.active c v l := by rw [← hl.len]; exact Vw.sel_active c v l
  obtain ⟨i0, hi, hz0, hz1, hz2⟩ := info_parts Vw.infoInt
  have HR := Lib.hid hres
  have HL := Lib.hid hl
  clear hl hres
  go_enter Try.func40, Try.ntmps40
  go_wp2_with fail
  go_loopw [5, 6] (fun vo vi wr => ∃ k : Nat, k ≤ n ∧ vi = .int .i64 k ∧ wr.ownsRow (w.heap.size + 1) 3 1 vo (Vw.sel (Vw.isB c v l) k).length (Vw.ints (Vw.sel (Vw.isB c v l) k)) ∧ wr.cell? ⟨w.heap.size, 0, none⟩ = some (.int .i64 c) ∧ wr.cell? ⟨w.heap.size, 1, none⟩ = some (.int .i64 v) ∧ Hid (Below w.heap.size w wr))
    (fun _ vi _ => n - (intOf vi).toNat)
  case atStart => exact ⟨0, by omega, rfl, World.ownsRow_nil _ _ _ _, by go_simp, by go_simp, Lib.hid ((Below.refl _ _).alloc (Nat.le_refl _) _)⟩
  case round =>
    obtain ⟨k, hk, rfl, hown, hc0, hc1, HB⟩ := hrel
    have hws : w.heap.size < wr.heap.size := World.block_lt_of_cell? wr ⟨w.heap.size, 0, none⟩ hc0
    by_cases hlt : k < n
    · have hsucc := Vw.sel_succ (Vw.isB c v l) k
      have hplen := Vw.sel_len (Vw.isB c v l) k
      have cf : ∀ W, Below w.heap.size w W → _ := fun W hW => Vw.ris_calls c v A n cap l k W (HL.out.below hW) hn
      have ca := cf wr HB.out
      clear cf
      cases hq : Vw.isB c v l k with
      | false =>
        rw [hq] at ca hsucc
        have hs : Vw.sel (Vw.isB c v l) (k + 1) = Vw.sel (Vw.isB c v l) k := by rw [hsucc]; simp
        have HS := Lib.hid hs
        clear hs hsucc hq
        go_wp2_with fail
        refine ca.mono ?_
        rintro e w1 ⟨rfl, b1⟩
        have BB := Lib.hid b1
        clear b1
        go_wp2_with fail
        go_roundw
        case rel => exact ⟨k + 1, by omega, by go_num, by rw [HS.out]; exact Kit.own_below hown BB.out, Kit.cell_below BB.out hc0, Kit.cell_below BB.out hc1, Lib.hid (HB.out.trans (BB.out.mono HB.out.size))⟩
        case measure => simp [intOf]; omega
      | true =>
        rw [hq] at ca hsucc
        have hs : Vw.sel (Vw.isB c v l) (k + 1) = Vw.sel (Vw.isB c v l) k ++ [k] := by rw [hsucc]; simp
        have HS := Lib.hid hs
        clear hs hsucc hq
        go_wp2_with fail
        refine ca.mono ?_
        rintro e w2 ⟨rfl, b2⟩
        have BB := Lib.hid b2
        have hown2 := Kit.own_below hown BB.out
        have hsz2 := (HB.out.trans (BB.out.mono HB.out.size)).size
        have hsz3 : w.heap.size < w2.heap.size := Nat.lt_of_lt_of_le hws BB.out.size
        clear b2
        go_wp2_with (at_builtin; refine wpList_append_own _ rfl _ _ 37 rfl (w.heap.size + 1) 3 i0 (.int .i64 0) 1 8 Try.underlying37 hi hz0 hz1 hz2 rfl (by decide) _ _ _ rfl (hown2.alloc _) ⟨w2.heap.size, 0, none⟩ 1 1 [.int .i64 (k : Int)] rfl rfl ?c1 ?c2 ?c3 ?c4 ?c5 ?_)
        case c1 => exact cell_one_new _ _ _
        case c2 => intro u hu; simp at hu; subst hu; rfl
        case c3 => unfold maxLen; omega
        case c4 => omega
        case c5 => simp; omega
        · intro v' w3 hown' hgrow _
          have hb7 := Kit.own_base hown2
          have bw2 := HB.out.trans (BB.out.mono HB.out.size)
          have b3 : Below w.heap.size w w3 := (bw2.alloc bw2.size _).grown hgrow (by have := bw2.size; simp; omega) (fun q hq => by have := hb7 q hq; omega)
          have d0 := Kit.grown_cell hgrow (b := w.heap.size) (o := 0) (v := .int .i64 c) (fun q hq => by have := hb7 q hq; omega) (by rw [World.cell?_alloc_past _ _ _ hsz3]; exact Kit.cell_below BB.out hc0)
          have d1 := Kit.grown_cell hgrow (b := w.heap.size) (o := 1) (v := .int .i64 v) (fun q hq => by have := hb7 q hq; omega) (by rw [World.cell?_alloc_past _ _ _ hsz3]; exact Kit.cell_below BB.out hc1)
          have B3 := Lib.hid b3
          clear b3 hown2 hgrow bw2 hb7
          go_wp2
          go_roundw
          case rel => exact ⟨k + 1, by omega, by go_num, by rw [HS.out, List.length_append]; unfold Vw.ints; rw [List.map_append]; exact hown', d0, d1, B3⟩
          case measure => simp [intOf]; omega
    · obtain rfl : k = n := by omega
      go_wp2_with fail
      go_ret
      exact ⟨_, rfl, by rw [← HR.out]; exact Kit.own_weaken hown (by omega), HB.out⟩

set_option maxHeartbeats 1000000 in
set_option maxRecDepth 100000 in
theorem Vw.rchanged_calls (c v : Int) (A A2 : Option Addr) (n cap n2 cap2 : Nat) (l m : List Nd) (w : World) (hl : Nodes w A n l) (hm : Nodes w A2 n2 m) (hn : n ≤ 1000000) (hn2 : n2 ≤ 1000000) :
    Calls Try.prog 43 #[.agg #[.int .i64 c, .int .i64 v], .slice A n cap, .slice A2 n2 cap2] w (Vw.Row w (Vw.changed c v l m)) := by
  have hres : Vw.sel (fun i => Vw.isB c v l i && !Vw.isB c v m i) n = Vw.changed c v l m := by rw [← hl.len]; exact Vw.sel_changed c v l m
  obtain ⟨i0, hi, hz0, hz1, hz2⟩ := info_parts Vw.infoInt
  have HR := Lib.hid hres
  have HL := Lib.hid hl
  have HM := Lib.hid hm
  clear hl hres hm
  go_enter Try.func43, Try.ntmps43
  go_wp2_with fail
  go_loopw [7, 8] (fun vo vi wr => ∃ k : Nat, k ≤ n ∧ vi = .int .i64 k ∧ wr.ownsRow (w.heap.size + 1) 3 1 vo (Vw.sel (fun i => Vw.isB c v l i && !Vw.isB c v m i) k).length (Vw.ints (Vw.sel (fun i => Vw.isB c v l i && !Vw.isB c v m i) k)) ∧ wr.cell? ⟨w.heap.size, 0, none⟩ = some (.int .i64 c) ∧ wr.cell? ⟨w.heap.size, 1, none⟩ = some (.int .i64 v) ∧ Hid (Below w.heap.size w wr))
    (fun _ vi _ => n - (intOf vi).toNat)
  case atStart => exact ⟨0, by omega, rfl, World.ownsRow_nil _ _ _ _, by go_simp, by go_simp, Lib.hid ((Below.refl _ _).alloc (Nat.le_refl _) _)⟩
  case round =>
    obtain ⟨k, hk, rfl, hown, hc0, hc1, HB⟩ := hrel
    have hws : w.heap.size < wr.heap.size := World.block_lt_of_cell? wr ⟨w.heap.size, 0, none⟩ hc0
    by_cases hlt : k < n
    · have hsucc := Vw.sel_succ (fun i => Vw.isB c v l i && !Vw.isB c v m i) k
      have hplen := Vw.sel_len (fun i => Vw.isB c v l i && !Vw.isB c v m i) k
      have cf : ∀ W, Below w.heap.size w W → _ := fun W hW => Vw.ris_calls c v A n cap l k W (HL.out.below hW) hn
      have cg : ∀ W, Below w.heap.size w W → _ := fun W hW => Vw.ris_calls c v A2 n2 cap2 m k W (HM.out.below hW) hn2
      have ca := cf wr HB.out
      clear cf
      cases hq : Vw.isB c v l k with
      | false =>
        rw [hq] at ca
        have hs : Vw.sel (fun i => Vw.isB c v l i && !Vw.isB c v m i) (k + 1) = Vw.sel (fun i => Vw.isB c v l i && !Vw.isB c v m i) k := by rw [hsucc]; simp [hq]
        have HS := Lib.hid hs
        clear hs hsucc hq cg
        go_wp2_with fail
        refine ca.mono ?_
        rintro e w1 ⟨rfl, b1⟩
        have BB := Lib.hid b1
        clear b1
        go_wp2_with fail
        go_roundw
        case rel => exact ⟨k + 1, by omega, by go_num, by rw [HS.out]; exact Kit.own_below hown BB.out, Kit.cell_below BB.out hc0, Kit.cell_below BB.out hc1, Lib.hid (HB.out.trans (BB.out.mono HB.out.size))⟩
        case measure => simp [intOf]; omega
      | true =>
        rw [hq] at ca
        cases hq2 : Vw.isB c v m k with
        | true =>
          rw [hq2] at cg
          have hs : Vw.sel (fun i => Vw.isB c v l i && !Vw.isB c v m i) (k + 1) = Vw.sel (fun i => Vw.isB c v l i && !Vw.isB c v m i) k := by rw [hsucc]; simp [hq2]
          have HS := Lib.hid hs
          clear hs hsucc hq hq2
          go_wp2_with fail
          refine ca.mono ?_
          rintro e w1 ⟨rfl, b1⟩
          have cb := cg w1 (HB.out.trans (b1.mono HB.out.size))
          have e0 := Kit.cell_below b1 hc0
          have e1 := Kit.cell_below b1 hc1
          have B1 := Lib.hid b1
          clear b1 cg
          go_wp2_with fail
          refine cb.mono ?_
          rintro e w2 ⟨rfl, b2⟩
          have BB := Lib.hid (Kit.chain B1.out b2)
          clear b2
          go_wp2_with fail
          go_roundw
          case rel => exact ⟨k + 1, by omega, by go_num, by rw [HS.out]; exact Kit.own_below hown BB.out, Kit.cell_below BB.out hc0, Kit.cell_below BB.out hc1, Lib.hid (HB.out.trans (BB.out.mono HB.out.size))⟩
          case measure => simp [intOf]; omega
        | false =>
          rw [hq2] at cg
          have hs : Vw.sel (fun i => Vw.isB c v l i && !Vw.isB c v m i) (k + 1) = Vw.sel (fun i => Vw.isB c v l i && !Vw.isB c v m i) k ++ [k] := by rw [hsucc]; simp [hq, hq2]
          have HS := Lib.hid hs
          clear hs hsucc hq hq2
          go_wp2_with fail
          refine ca.mono ?_
          rintro e w1 ⟨rfl, b1⟩
          have cb := cg w1 (HB.out.trans (b1.mono HB.out.size))
          have e0 := Kit.cell_below b1 hc0
          have e1 := Kit.cell_below b1 hc1
          have B1 := Lib.hid b1
          clear b1 cg
          go_wp2_with fail
          refine cb.mono ?_
          rintro e w2 ⟨rfl, b2⟩
          have BB := Lib.hid (Kit.chain B1.out b2)
          have hown2 := Kit.own_below hown BB.out
          have hsz2 := (HB.out.trans (BB.out.mono HB.out.size)).size
          have hsz3 : w.heap.size < w2.heap.size := Nat.lt_of_lt_of_le hws BB.out.size
          clear b2
          go_wp2_with (at_builtin; refine wpList_append_own _ rfl _ _ 37 rfl (w.heap.size + 1) 3 i0 (.int .i64 0) 1 8 Try.underlying37 hi hz0 hz1 hz2 rfl (by decide) _ _ _ rfl (hown2.alloc _) ⟨w2.heap.size, 0, none⟩ 1 1 [.int .i64 (k : Int)] rfl rfl ?c1 ?c2 ?c3 ?c4 ?c5 ?_)
          case c1 => exact cell_one_new _ _ _
          case c2 => intro u hu; simp at hu; subst hu; rfl
          case c3 => unfold maxLen; omega
          case c4 => omega
          case c5 => simp; omega
          · intro v' w3 hown' hgrow _
            have hb7 := Kit.own_base hown2
            have bw2 := HB.out.trans (BB.out.mono HB.out.size)
            have b3 : Below w.heap.size w w3 := (bw2.alloc bw2.size _).grown hgrow (by have := bw2.size; simp; omega) (fun q hq => by have := hb7 q hq; omega)
            have d0 := Kit.grown_cell hgrow (b := w.heap.size) (o := 0) (v := .int .i64 c) (fun q hq => by have := hb7 q hq; omega) (by rw [World.cell?_alloc_past _ _ _ hsz3]; exact Kit.cell_below BB.out hc0)
            have d1 := Kit.grown_cell hgrow (b := w.heap.size) (o := 1) (v := .int .i64 v) (fun q hq => by have := hb7 q hq; omega) (by rw [World.cell?_alloc_past _ _ _ hsz3]; exact Kit.cell_below BB.out hc1)
            have B3 := Lib.hid b3
            clear b3 hown2 hgrow bw2 hb7
            go_wp2
            go_roundw
            case rel => exact ⟨k + 1, by omega, by go_num, by rw [HS.out, List.length_append]; unfold Vw.ints; rw [List.map_append]; exact hown', d0, d1, B3⟩
            case measure => simp [intOf]; omega
    · obtain rfl : k = n := by omega
      go_wp2_with fail
      go_ret
      exact ⟨_, rfl, by rw [← HR.out]; exact Kit.own_weaken hown (by omega), HB.out⟩

/-- The first place of the first k whose Pos is another. -/
theorem Vw.slot_of_all {c v : Int} {l : List Nd} {p : Nat} {r : List Nat} (h : Vw.active c v l = p :: r) (ha : ∀ (j x : Nat), (p :: r)[j]? = some x → (Vw.psAt l x != Vw.psAt l p) = false) : Vw.slot c v l = some (Vw.psAt l p) := by
  rw [Vw.slot_cons h]
  have : (p :: r).any (fun i => Vw.psAt l i != Vw.psAt l p) = false := by
    rw [List.any_eq_false]
    intro x hx
    obtain ⟨j, hj⟩ := List.mem_iff_getElem?.1 hx
    rw [ha j x hj]
    simp
  rw [this]
  rfl
theorem Vw.slot_of_one {c v : Int} {l : List Nd} {p : Nat} {r : List Nat} (h : Vw.active c v l = p :: r) {j x : Nat} (hj : (p :: r)[j]? = some x) (ha : (Vw.psAt l x != Vw.psAt l p) = true) : Vw.slot c v l = none := by
  rw [Vw.slot_cons h]
  have : (p :: r).any (fun i => Vw.psAt l i != Vw.psAt l p) = true := by
    rw [List.any_eq_true]
    exact ⟨x, List.mem_of_getElem? hj, ha⟩
  rw [this]
  rfl

set_option maxHeartbeats 1000000 in
set_option maxRecDepth 100000 in
theorem Vw.rslot_calls (c v : Int) (A : Option Addr) (n cap : Nat) (l : List Nd) (w : World) (hl : Nodes w A n l) (hn : n ≤ 1000000) :
    Calls Try.prog 38 #[.agg #[.int .i64 c, .int .i64 v], .slice A n cap] w fun e w' => e = .returned (Vw.slotV (Vw.slot c v l)) ∧ Below w.heap.size w w' := by
  have b0 : Below w.heap.size w (w.alloc (.cells #[.int .i64 c, .int .i64 v] 35)) := (Below.refl w.heap.size w).alloc (Nat.le_refl _) _
  have c1 := Vw.ractive_calls c v A n cap l _ (hl.below b0) hn
  have HB0 := Lib.hid b0
  have HL := Lib.hid hl
  clear hl b0
  cases hact : Vw.active c v l with
  | nil =>
    rw [Vw.slot_nil hact]
    rw [hact] at c1
    clear hact
    go_enter Try.func38, Try.ntmps38
    go_wp2_with fail
    refine c1.mono ?_
    rintro e w1 ⟨v1, rfl, hown, b1⟩
    obtain ⟨A1, cap1, rfl, _⟩ := Vw.Ints.of_own hown
    have B1 := Lib.hid (Kit.chain HB0.out b1)
    clear hown b1
    go_wp2_with fail
    refine wp_loop_rounds 1 ?_
    rw [rounds_succ]
    go_wp2_with fail
    go_ret2
    exact ⟨rfl, B1.out⟩
  | cons p r =>
    have hmem : ∀ x ∈ p :: r, x < n := fun x hx => by
      have h1 : x ∈ Vw.active c v l := by rw [hact]; exact hx
      have := Vw.mem_places (c := c) (v := v) (so := Vw.act) (l := l) (k := l.length) (i := x) h1
      rw [HL.out.len] at this
      exact this
    have hpn : p < n := hmem p (by simp)
    have hlen : (p :: r).length ≤ n := by
      have := Vw.places_len c v Vw.act l l.length
      rw [HL.out.len] at this
      rw [← hact]
      unfold Vw.active
      rw [HL.out.len]
      exact this
    have HM := Lib.hid hmem
    have HS1 : Hid ((∀ (j x : Nat), (p :: r)[j]? = some x → (Vw.psAt l x != Vw.psAt l p) = false) → Vw.slot c v l = some (Vw.psAt l p)) := Lib.hid (Vw.slot_of_all hact)
    have HS2 : Hid (∀ (j x : Nat), (p :: r)[j]? = some x → (Vw.psAt l x != Vw.psAt l p) = true → Vw.slot c v l = none) := Lib.hid (fun j x hj ha => Vw.slot_of_one hact hj ha)
    have hkl : p < l.length := by rw [HL.out.len]; exact hpn
    obtain ⟨x, hx⟩ : ∃ x, l[p]? = some x := ⟨_, List.getElem?_eq_getElem hkl⟩
    have hxd : Vw.psAt l p = x.ps := by unfold Vw.psAt; rw [List.getD_eq_getElem?_getD, hx]; rfl
    rw [hxd] at HS1 HS2
    have HXX := Lib.hid hx
    rw [hact] at c1
    clear hact hmem hx hxd
    have hlp : 0 < (p :: r).length := by simp
    have hp0 : (p :: r)[0]? = some p := rfl
    have HP0 := Lib.hid hp0
    clear hp0
    generalize hpr : p :: r = pl at *
    clear hpr
    have hz : ((pl.length : Int) == 0) = false := by rw [beq_eq_false_iff_ne]; omega
    go_enter Try.func38, Try.ntmps38
    go_wp2_with fail
    refine c1.mono ?_
    rintro e w1 ⟨v1, rfl, hown, b1⟩
    obtain ⟨A1, cap1, rfl, hint⟩ := Vw.Ints.of_own hown
    obtain ⟨g1, off1, rfl, hg1, hcells⟩ := hint.at_ (by omega)
    obtain ⟨b, off, rfl, hb, hrow⟩ := HL.out.row (by omega)
    have bw1 : Below w.heap.size w w1 := Kit.chain HB0.out b1
    have r3 := Kit.cell_below bw1 (hrow p x HXX.out).2.2.2
    have m0 := hcells 0 p HP0.out
    rw [Nat.add_zero] at m0
    have HC : Hid (∀ (j x : Nat), pl[j]? = some x → w1.cell? ⟨g1, off1 + j, none⟩ = some (.int .i64 (x : Int))) := Lib.hid hcells
    have HRW := Lib.hid hrow
    have HI := Lib.hid hint
    have BW1 := Lib.hid bw1
    clear hown b1 hcells hrow bw1 hint
    go_wp2_with fail
    go_loopw [7] (fun vi wr => ∃ k : Nat, k ≤ pl.length ∧ vi = .int .i64 k ∧ Hid (∀ (j y : Nat), j < k → pl[j]? = some y → (Vw.psAt l y != x.ps) = false) ∧ Hid (Below w1.heap.size w1 wr)) (fun vi _ => pl.length - (intOf vi).toNat)
    case atStart => exact ⟨0, by omega, rfl, Lib.hid (fun j y h => absurd h (by omega)), Lib.hid (Below.refl _ _)⟩
    case round =>
      obtain ⟨k, hk, rfl, HA, HB⟩ := hrel
      have n0 := Kit.cell_below HB.out m0
      have n3 := Kit.cell_below HB.out r3
      by_cases hlt : k < pl.length
      · obtain ⟨y, hy⟩ : ∃ y, pl[k]? = some y := ⟨_, List.getElem?_eq_getElem hlt⟩
        have hyn := HM.out y (List.mem_of_getElem? hy)
        have hyl : y < l.length := by rw [HL.out.len]; exact hyn
        obtain ⟨z, hz2⟩ : ∃ z, l[y]? = some z := ⟨_, List.getElem?_eq_getElem hyl⟩
        have hzd : Vw.psAt l y = z.ps := by unfold Vw.psAt; rw [List.getD_eq_getElem?_getD, hz2]; rfl
        have n1 := Kit.cell_below HB.out (HC.out k y hy)
        have n2 := Kit.cell_below HB.out (Kit.cell_below BW1.out (HRW.out y z hz2).2.2.2)
        have HY := Lib.hid hy
        have HZ := Lib.hid hzd
        clear hy hz2 hzd m0 r3
        cases hq : (z.ps != x.ps) with
        | true =>
          have hres : Vw.slot c v l = none := HS2.out k y HY.out (by rw [HZ.out]; exact hq)
          have HRes := Lib.hid hres
          clear hres
          go_wp2_with fail
          go_quiet (fail)
          go_wp2_with fail
          go_ret2
          exact ⟨by rw [HRes.out]; rfl, BW1.out.trans ((HB.out.trans ((Kit.below_drewN _ _).mono HB.out.size)).mono BW1.out.size)⟩
        | false =>
          have hA2 : Hid (∀ (j y : Nat), j < k + 1 → pl[j]? = some y → (Vw.psAt l y != x.ps) = false) := Lib.hid (fun j y' hj hy' => by
            by_cases e : j = k
            · subst e; rw [HY.out] at hy'; injection hy' with hy'; rw [← hy', HZ.out]; exact hq
            · exact HA.out j y' (by omega) hy')
          go_wp2_with fail
          go_quiet (fail)
          go_wp2_with fail
          go_roundw
          case rel => exact ⟨k + 1, by omega, by go_num, hA2, Lib.hid (HB.out.trans ((Kit.below_drewN _ _).mono HB.out.size))⟩
          case measure => simp [intOf]; omega
      · obtain rfl : k = pl.length := by omega
        have hres : Vw.slot c v l = some x.ps := HS1.out (fun j y hj => HA.out j y (List.getElem?_eq_some_iff.1 hj).1 hj)
        have HRes := Lib.hid hres
        clear hres m0 r3
        go_wp2_with fail
        go_ret2
        exact ⟨by rw [HRes.out]; rfl, BW1.out.trans (HB.out.mono BW1.out.size)⟩
end Go.Proofs.Ytpbkoooljelhjaa
