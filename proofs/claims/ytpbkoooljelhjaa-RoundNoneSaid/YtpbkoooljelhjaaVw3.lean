/-
  The walks of package view, third part: Slot and Changed.
-/
import Derived.Test.YtpbkoooljelhjaaVw2
import Derived.BigRegion
namespace Go.Proofs.Ytpbkoooljelhjaa
set_option linter.unusedVariables false
set_option linter.unusedSimpArgs false
open Go.RowKit

set_option maxHeartbeats 400000 in
set_option maxRecDepth 100000 in
/-- The literal in Slot: has the node of a place another Pos? -/
theorem Vw.slotone_calls (A : Option Addr) (n cap : Nat) (l : List Nd) (i : Nat) (q : Int) (B D : Nat) (w : World) (hl : Nodes w A n l) (hi : i < n) (hn : n ≤ 1000000)
    (h1 : w.cell? ⟨B, 0, none⟩ = some (.slice A n cap)) (h2 : w.cell? ⟨D, 0, none⟩ = some (.int .i64 q)) :
    Calls Try.prog 92 #[.int .i64 (i : Int), .pointer (some ⟨B, 0, none⟩), .pointer (some ⟨D, 0, none⟩)] w fun e w' => e = .returned (.bool (Vw.psAt l i != q)) ∧ Below w.heap.size w w' := by
  obtain ⟨b, off, rfl, hb, hrow⟩ := hl.row (by omega)
  have hkl : i < l.length := by rw [hl.len]; exact hi
  obtain ⟨x, hx⟩ : ∃ x, l[i]? = some x := ⟨_, List.getElem?_eq_getElem hkl⟩
  have hxd : Vw.psAt l i = x.ps := by unfold Vw.psAt; rw [List.getD_eq_getElem?_getD, hx]; rfl
  obtain ⟨r0, r1, r2, r3⟩ := hrow i x hx
  rw [hxd]
  clear r0 r1 r2 hrow hx hl hxd
  go_enter Try.func92, Try.ntmps92
  go_wp2_with fail
  go_quiet (fail)
  go_wp2_with fail
  go_ret
  exact ⟨rfl, Kit.below_drewN _ _⟩

theorem Vw.slot_cons {c v : Int} {l : List Nd} {p : Nat} {r : List Nat} (h : Vw.active c v l = p :: r) :
    Vw.slot c v l = if (p :: r).any (fun i => Vw.psAt l i != Vw.psAt l p) then none else some (Vw.psAt l p) := by unfold Vw.slot; rw [h]
theorem Vw.slot_nil {c v : Int} {l : List Nd} (h : Vw.active c v l = []) : Vw.slot c v l = none := by unfold Vw.slot; rw [h]
/-- What Slot answers. -/
def Vw.slotV (s : Option Int) : Value := .tuple #[.int .i64 (s.getD 0), .bool s.isSome]

set_option maxHeartbeats 1000000 in
set_option maxRecDepth 100000 in
/-- view.Slot. -/
theorem Vw.vslot_calls (c v : Int) (A : Option Addr) (n cap : Nat) (l : List Nd) (w : World) (hl : Nodes w A n l) (hn : n ≤ 1000000) :
    Calls Try.prog 37 #[.agg #[.int .i64 c, .int .i64 v], .slice A n cap] w fun e w' => e = .returned (Vw.slotV (Vw.slot c v l)) ∧ Below w.heap.size w w' := by
  have b0 : Below w.heap.size w ((w.alloc (.cells #[.int .i64 c, .int .i64 v] 35)).alloc (.cells #[.slice A n cap] 36)) := ((Below.refl w.heap.size w).alloc (Nat.le_refl _) _).alloc (by simp) _
  have c1 := Vw.vactive_calls c v A n cap l _ (hl.below b0) hn
  have HB0 := Lib.hid b0
  have HL := Lib.hid hl
  clear hl b0
  cases hact : Vw.active c v l with
  | nil =>
    rw [Vw.slot_nil hact]
    rw [hact] at c1
    clear hact
    go_enter Try.func37, Try.ntmps37
    go_wp2_with fail
    refine c1.mono ?_
    rintro e w1 ⟨v1, rfl, hown, b1⟩
    obtain ⟨A1, cap1, rfl, _⟩ := Vw.Ints.of_own hown
    have B1 := Lib.hid b1
    clear hown b1
    go_wp2_with fail
    go_ret2
    exact ⟨rfl, HB0.out.trans (B1.out.mono HB0.out.size)⟩
  | cons p r =>
    rw [Vw.slot_cons hact]
    have hmem : ∀ x ∈ p :: r, x < n := fun x hx => by
      have h1 : x ∈ Vw.active c v l := by rw [hact]; exact hx
      have := Vw.mem_places (c := c) (v := v) (so := Vw.act) (l := l) (k := l.length) (i := x) h1
      rw [HL.out.len] at this
      exact this
    have hpn : p < n := hmem p (by simp)
    have hlen : (p :: r).length ≤ n := by
      have := Vw.places_len c v Vw.act l l.length
      rw [HL.out.len] at this
      rw [← hact]
      unfold Vw.active
      rw [HL.out.len]
      exact this
    have HM := Lib.hid hmem
    have hkl : p < l.length := by rw [HL.out.len]; exact hpn
    obtain ⟨x, hx⟩ : ∃ x, l[p]? = some x := ⟨_, List.getElem?_eq_getElem hkl⟩
    have hxd : Vw.psAt l p = x.ps := by unfold Vw.psAt; rw [List.getD_eq_getElem?_getD, hx]; rfl
    have HXX := Lib.hid hx
    rw [hxd]
    rw [hact] at c1
    clear hx hxd
    clear hact hmem
    have hlp : 0 < (p :: r).length := by simp
    have hp0 : (p :: r)[0]? = some p := rfl
    have HP0 := Lib.hid hp0
    clear hp0
    generalize hpr : p :: r = pl at *
    clear hpr
    have hz : ((pl.length : Int) == 0) = false := by rw [beq_eq_false_iff_ne]; omega
    cases han : pl.any (fun i => Vw.psAt l i != x.ps)
    · have hcond : (if false = true then none else some x.ps) = some x.ps := rfl
      rw [hcond]
      go_enter Try.func37, Try.ntmps37
      go_wp2_with fail
      refine c1.mono ?_
      rintro e w1 ⟨v1, rfl, hown, b1⟩
      obtain ⟨A1, cap1, rfl, hint⟩ := Vw.Ints.of_own hown
      obtain ⟨g1, off1, rfl, hg1, hcells⟩ := hint.at_ (by omega)
      have m0 := hcells 0 p HP0.out
      rw [Nat.add_zero] at m0
      obtain ⟨b, off, rfl, hb, hrow⟩ := HL.out.row (by omega)
      have bw1 : Below w.heap.size w w1 := HB0.out.trans (b1.mono HB0.out.size)
      have r3 := Kit.cell_below bw1 (hrow p x HXX.out).2.2.2
      obtain ⟨hcc, hff⟩ := Kit.bcell b1
      have hz1 : w.heap.size + 1 < w1.heap.size := by have := b1.size; simp at this; omega
      have hz0 : w.heap.size < w1.heap.size := by omega
      have hb1 : b < w1.heap.size := by omega
      have HI := Lib.hid hint
      have BW1 := Lib.hid bw1
      clear hown b1 hcells hrow bw1 hint
      have q1 : w1.cell? ⟨w.heap.size + 1, 0, none⟩ = some (.slice (some ⟨b, off, none⟩) n cap) := by rw [hcc _ _ (by simp)]; go_simp
      have b2 : Below w1.heap.size w1 (w1.alloc (.cells #[.int .i64 x.ps] 3)).drew := ((Below.refl _ _).alloc (Nat.le_refl _) _).drew
      have c2 := Vw.cfunc_calls (some ⟨g1, off1, none⟩) pl.length cap1 pl 92 #[.pointer (some ⟨w.heap.size + 1, 0, none⟩), .pointer (some ⟨w1.heap.size, 0, none⟩)] (fun i => Vw.psAt l i != x.ps)
        (w1.alloc (.cells #[.int .i64 x.ps] 3)).drew (HI.out.below b2) (by omega) (Kit.enters Try.func92 (by kernel_rfl) rfl)
        (fun W i hW hi => Vw.slotone_calls (some ⟨b, off, none⟩) n cap l i x.ps (w.heap.size + 1) w1.heap.size W ((HL.out.below BW1.out).below (Kit.chain b2 hW)) (HM.out i hi) hn
          (Kit.cell_below (Kit.chain b2 hW) q1) (Kit.cell_below hW (by go_simp)))
      have HB2 := Lib.hid b2
      clear b2 q1
      rw [han] at c2
      clear han
      go_wp2_with fail
      go_region
      go_wp2_with fail
      refine c2.mono ?_
      rintro e w3 ⟨rfl, b3⟩
      have hz3 : w1.heap.size < w3.heap.size := by have := b3.size; simp at this; omega
      have q3 := Kit.cell_below b3 (a := ⟨w1.heap.size, 0, none⟩) (v := .int .i64 x.ps) (by go_simp)
      have B3 := Lib.hid (BW1.out.trans ((Kit.chain HB2.out b3).mono BW1.out.size))
      clear b3 hcc hff
      go_wp2_with fail
      go_ret2
      exact ⟨rfl, B3.out⟩
    · have hcond : (if true = true then none else some x.ps) = (none : Option Int) := rfl
      rw [hcond]
      go_enter Try.func37, Try.ntmps37
      go_wp2_with fail
      refine c1.mono ?_
      rintro e w1 ⟨v1, rfl, hown, b1⟩
      obtain ⟨A1, cap1, rfl, hint⟩ := Vw.Ints.of_own hown
      obtain ⟨g1, off1, rfl, hg1, hcells⟩ := hint.at_ (by omega)
      have m0 := hcells 0 p HP0.out
      rw [Nat.add_zero] at m0
      obtain ⟨b, off, rfl, hb, hrow⟩ := HL.out.row (by omega)
      have bw1 : Below w.heap.size w w1 := HB0.out.trans (b1.mono HB0.out.size)
      have r3 := Kit.cell_below bw1 (hrow p x HXX.out).2.2.2
      obtain ⟨hcc, hff⟩ := Kit.bcell b1
      have hz1 : w.heap.size + 1 < w1.heap.size := by have := b1.size; simp at this; omega
      have hz0 : w.heap.size < w1.heap.size := by omega
      have hb1 : b < w1.heap.size := by omega
      have HI := Lib.hid hint
      have BW1 := Lib.hid bw1
      clear hown b1 hcells hrow bw1 hint
      have q1 : w1.cell? ⟨w.heap.size + 1, 0, none⟩ = some (.slice (some ⟨b, off, none⟩) n cap) := by rw [hcc _ _ (by simp)]; go_simp
      have b2 : Below w1.heap.size w1 (w1.alloc (.cells #[.int .i64 x.ps] 3)).drew := ((Below.refl _ _).alloc (Nat.le_refl _) _).drew
      have c2 := Vw.cfunc_calls (some ⟨g1, off1, none⟩) pl.length cap1 pl 92 #[.pointer (some ⟨w.heap.size + 1, 0, none⟩), .pointer (some ⟨w1.heap.size, 0, none⟩)] (fun i => Vw.psAt l i != x.ps)
        (w1.alloc (.cells #[.int .i64 x.ps] 3)).drew (HI.out.below b2) (by omega) (Kit.enters Try.func92 (by kernel_rfl) rfl)
        (fun W i hW hi => Vw.slotone_calls (some ⟨b, off, none⟩) n cap l i x.ps (w.heap.size + 1) w1.heap.size W ((HL.out.below BW1.out).below (Kit.chain b2 hW)) (HM.out i hi) hn
          (Kit.cell_below (Kit.chain b2 hW) q1) (Kit.cell_below hW (by go_simp)))
      have HB2 := Lib.hid b2
      clear b2 q1
      rw [han] at c2
      clear han
      go_wp2_with fail
      go_region
      go_wp2_with fail
      refine c2.mono ?_
      rintro e w3 ⟨rfl, b3⟩
      have hz3 : w1.heap.size < w3.heap.size := by have := b3.size; simp at this; omega
      have q3 := Kit.cell_below b3 (a := ⟨w1.heap.size, 0, none⟩) (v := .int .i64 x.ps) (by go_simp)
      have B3 := Lib.hid (BW1.out.trans ((Kit.chain HB2.out b3).mono BW1.out.size))
      clear b3 hcc hff
      go_wp2_with fail
      go_ret2
      exact ⟨rfl, B3.out⟩
end Go.Proofs.Ytpbkoooljelhjaa
