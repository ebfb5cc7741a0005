/-
  Part 35 of a merged text.
-/
import Derived.Test.YtgiojagdmglinaaGreatDoorGb01
import Derived.BigRegion
set_option linter.unusedVariables false
set_option linter.unusedSimpArgs false
set_option maxRecDepth 100000
namespace Go.Proofs.YtgiojagdmglinaaGreatDoor
open Go.RowKit
set_option maxHeartbeats 400000 in
theorem Vw.ifunc_calls (A : Option Addr) (n cap : Nat) (l : List Nat) (g : Nat) (lb : Array Value) (p : Nat → Bool) (w : World) (hl : Vw.Ints w A n l) (hn : n ≤ 1000000)
  (eg : ∀ args w, (callFunc g args).run Tryz.prog w = .ok (.enter g args) w)
  (hp : ∀ (W : World) (x : Nat), Below w.heap.size w W → x ∈ l → Calls Tryz.prog g (#[.int .i64 (x : Int)] ++ lb) W fun e w' => e = .returned (.bool (p x)) ∧ Below W.heap.size W w') :
  Calls Tryz.prog 106 #[.slice A n cap, .func (.func g) #[] lb] w fun e w' => e = .returned (.int .i64 (Vw.idx p l)) ∧ Below w.heap.size w w' := by
 have HL := Lib.hid hl
 have HP : Hid (∀ (W : World) (x : Nat), Below w.heap.size w W → x ∈ l → Calls Tryz.prog g (#[.int .i64 (x : Int)] ++ lb) W fun e w' => e = .returned (.bool (p x)) ∧ Below W.heap.size W w') := Lib.hid hp
 clear hl hp
 go_enter Tryz.func106, Tryz.ntmps106
 go_wp2_with fail
 go_loopw [5, 8] (fun _ vi wr => ∃ k : Nat, k ≤ n ∧ vi = .int .i64 k ∧ Hid (Below w.heap.size w wr) ∧ Hid (∀ (j : Nat) (y : Nat), j < k → l[j]? = some y → p y = false)) (fun _ vi _ => n - (intOf vi).toNat)
 case atStart => exact ⟨0, by omega, rfl, Lib.hid (Below.refl _ _), Lib.hid (fun j y h => absurd h (by omega))⟩
 case round =>
  obtain ⟨k, hk, rfl, HB, HA⟩ := hrel
  by_cases hlt : k < n
  ·obtain ⟨b, off, rfl, hb, hrow⟩ := HL.out.at_ (by omega)
   have hkl : k < l.length := by rw [HL.out.len]; exact hlt
   obtain ⟨x, hx⟩ : ∃ x, l[k]? = some x := ⟨_, List.getElem?_eq_getElem hkl⟩
   have m0 := (HB.out.cell (p := ⟨b, off + k, none⟩) hb).trans (hrow k x hx)
   have cs := HP.out wr x HB.out (List.mem_of_getElem? hx)
   have HX := Lib.hid hx
   clear hrow hx
   cases hq : p x with
   | true =>
    rw [hq] at cs
    have HQ := Lib.hid hq
    clear hq
    go_wp2_with fail
    refine cs.mono ?_
    rintro e w1 ⟨rfl, b1⟩
    go_wp2_with fail
    go_ret
    exact ⟨by rw [Vw.idx_hit p l k x HX.out HQ.out HA.out]; rfl, HB.out.trans (b1.mono HB.out.size)⟩
   | false =>
    rw [hq] at cs
    have HA2 : Hid (∀ (j : Nat) (y : Nat), j < k + 1 → l[j]? = some y → p y = false) := Lib.hid (fun j y hj hy => by
     by_cases e : j = k
     ·subst e; have := HX.out; rw [this] at hy; injection hy with hy; rw [← hy]; exact hq
     ·exact HA.out j y (by omega) hy)
    clear hq
    go_wp2_with fail
    refine cs.mono ?_
    rintro e w1 ⟨rfl, b1⟩
    have B1 := Lib.hid (HB.out.trans (b1.mono HB.out.size))
    clear b1
    go_wp2_with fail
    go_roundw
    case rel => exact ⟨k + 1, by omega, by go_num, B1, HA2⟩
    case measure => simp [intOf]; omega
  ·obtain rfl : k = n := by omega
   go_wp2_with fail
   go_ret
   exact ⟨by rw [Vw.idx_miss p l (fun j y hy => HA.out j y (by have := (List.getElem?_eq_some_iff.1 hy).1; rw [HL.out.len] at this; exact this) hy)]; rfl, HB.out⟩
set_option maxHeartbeats 400000 in
theorem Vw.cfunc_calls (A : Option Addr) (n cap : Nat) (l : List Nat) (g : Nat) (lb : Array Value) (p : Nat → Bool) (w : World) (hl : Vw.Ints w A n l) (hn : n ≤ 1000000)
  (eg : ∀ args w, (callFunc g args).run Tryz.prog w = .ok (.enter g args) w)
  (hp : ∀ (W : World) (x : Nat), Below w.heap.size w W → x ∈ l → Calls Tryz.prog g (#[.int .i64 (x : Int)] ++ lb) W fun e w' => e = .returned (.bool (p x)) ∧ Below W.heap.size W w') :
  Calls Tryz.prog 76 #[.slice A n cap, .func (.func g) #[] lb] w fun e w' => e = .returned (.bool (l.any p)) ∧ Below w.heap.size w w' := by
 have c1 := Vw.ifunc_calls A n cap l g lb p w hl hn eg hp
 have ha := Vw.idx_any p l
 have HA := Lib.hid ha
 clear ha hl hp
 generalize Vw.idx p l = q at *
 go_enter Tryz.func76, Tryz.ntmps76
 go_wp2_with fail
 refine c1.mono ?_
 rintro e w1 ⟨rfl, b1⟩
 go_wp2_with fail
 go_ret
 exact ⟨by rw [← HA.out]; rfl, b1⟩
theorem Vw.so_active (l : List Nd) (w : World) : Vw.So 80 #[] Vw.act l w := fun W i x _ _ => Vw.active_calls _ _ _ _ _ W
theorem Vw.so_all (l : List Nd) (w : World) : Vw.So 79 #[] (fun i x => !Vw.act i x) l w := fun W i x _ _ => Vw.allone_calls _ _ _ _ _ W
set_option maxHeartbeats 400000 in
theorem Vw.vactive_calls (c v : Int) (A : Option Addr) (n cap : Nat) (l : List Nd) (w : World) (hl : Nodes w A n l) (hn : n ≤ 1000000) :
  Calls Tryz.prog 50 #[.agg #[.int .i64 c, .int .i64 v], .slice A n cap] w (Vw.Row w (Vw.active c v l)) := by
 have c1 := Vw.places_calls c v A n cap l 80 #[] Vw.act _ (hl.below ((Below.refl w.heap.size w).alloc (Nat.le_refl _) (.cells #[.int .i64 c, .int .i64 v] 24))) hn (Kit.enters Tryz.func80 (by kernel_rfl) rfl) (Vw.so_active l _)
 have hlen := hl.len
 rw [← hlen] at c1
 unfold Vw.active
 rw [hlen] at c1 ⊢
 clear hl hlen
 go_enter Tryz.func50, Tryz.ntmps50
 go_wp2_with fail
 refine c1.mono ?_
 rintro e w1 ⟨v1, rfl, hown, b1⟩
 have B1 := Lib.hid b1
 have HO := Lib.hid hown
 clear hown b1
 go_wp2_with fail
 go_ret
 exact ⟨_, rfl, Kit.own_weaken HO.out (by simp), Kit.chain ((Below.refl _ _).alloc (Nat.le_refl _) _) B1.out⟩
set_option maxHeartbeats 400000 in
theorem Vw.vall_calls (c v : Int) (A : Option Addr) (n cap : Nat) (l : List Nd) (w : World) (hl : Nodes w A n l) (hn : n ≤ 1000000) :
  Calls Tryz.prog 48 #[.agg #[.int .i64 c, .int .i64 v], .slice A n cap] w fun e w' => e = .returned (.bool (Vw.all c v l)) ∧ Below w.heap.size w w' := by
 have c1 := Vw.places_calls c v A n cap l 79 #[] (fun i x => !Vw.act i x) _ (hl.below ((Below.refl w.heap.size w).alloc (Nat.le_refl _) (.cells #[.int .i64 c, .int .i64 v] 24))) hn (Kit.enters Tryz.func79 (by kernel_rfl) rfl) (Vw.so_all l _)
 have hlen := hl.len
 unfold Vw.all
 rw [hlen]
 have hp := Vw.places_len c v (fun i x => !Vw.act i x) l n
 generalize Vw.places c v (fun i x => !Vw.act i x) l n = pl at *
 clear hl hlen
 go_enter Tryz.func48, Tryz.ntmps48
 go_wp2_with fail
 refine c1.mono ?_
 rintro e w1 ⟨v1, rfl, hown, b1⟩
 obtain ⟨A1, cap1, rfl, _⟩ := Vw.Ints.of_own hown
 have B1 := Lib.hid b1
 clear hown b1
 go_wp2_with fail
 go_ret
 exact ⟨congrArg Ending.returned (congrArg Value.bool (by rw [Bool.eq_iff_iff, beq_iff_eq, beq_iff_eq]; omega)), Kit.chain ((Below.refl _ _).alloc (Nat.le_refl _) _) B1.out⟩
end Go.Proofs.YtgiojagdmglinaaGreatDoor
namespace Go.Proofs.YtgiojagdmglinaaGreatDoor
open Go.RowKit
set_option maxHeartbeats 400000 in
theorem Vw.slotone_calls (A : Option Addr) (n cap : Nat) (l : List Nd) (i : Nat) (q : Int) (B D : Nat) (w : World) (hl : Nodes w A n l) (hi : i < n) (hn : n ≤ 1000000)
  (h1 : w.cell? ⟨B, 0, none⟩ = some (.slice A n cap)) (h2 : w.cell? ⟨D, 0, none⟩ = some (.int .i64 q)) :
  Calls Tryz.prog 77 #[.int .i64 (i : Int), .pointer (some ⟨B, 0, none⟩), .pointer (some ⟨D, 0, none⟩)] w fun e w' => e = .returned (.bool (Vw.psAt l i != q)) ∧ Below w.heap.size w w' := by
 obtain ⟨b, off, rfl, hb, hrow⟩ := hl.row (by omega)
 have hkl : i < l.length := by rw [hl.len]; exact hi
 obtain ⟨x, hx⟩ : ∃ x, l[i]? = some x := ⟨_, List.getElem?_eq_getElem hkl⟩
 have hxd : Vw.psAt l i = x.ps := by unfold Vw.psAt; rw [List.getD_eq_getElem?_getD, hx]; rfl
 obtain ⟨r0, r1, r2, r3⟩ := hrow i x hx
 rw [hxd]
 clear r0 r1 r2 hrow hx hl hxd
 go_enter Tryz.func77, Tryz.ntmps77
 go_wp2_with fail
 go_quiet (fail)
 go_wp2_with fail
 go_ret
 exact ⟨rfl, Kit.below_drewN _ _⟩
theorem Vw.slot_cons {c v : Int} {l : List Nd} {p : Nat} {r : List Nat} (h : Vw.active c v l = p :: r) :
  Vw.slot c v l = if (p :: r).any (fun i => Vw.psAt l i != Vw.psAt l p) then none else some (Vw.psAt l p) := by unfold Vw.slot; rw [h]
theorem Vw.slot_nil {c v : Int} {l : List Nd} (h : Vw.active c v l = []) : Vw.slot c v l = none := by unfold Vw.slot; rw [h]
def Vw.slotV (s : Option Int) : Value := .tuple #[.int .i64 (s.getD 0), .bool s.isSome]
set_option maxHeartbeats 1000000 in
theorem Vw.vslot_calls (c v : Int) (A : Option Addr) (n cap : Nat) (l : List Nd) (w : World) (hl : Nodes w A n l) (hn : n ≤ 1000000) :
  Calls Tryz.prog 47 #[.agg #[.int .i64 c, .int .i64 v], .slice A n cap] w fun e w' => e = .returned (Vw.slotV (Vw.slot c v l)) ∧ Below w.heap.size w w' := by
 have b0 : Below w.heap.size w ((w.alloc (.cells #[.int .i64 c, .int .i64 v] 24)).alloc (.cells #[.slice A n cap] 25)) := ((Below.refl w.heap.size w).alloc (Nat.le_refl _) _).alloc (by simp) _
 have c1 := Vw.vactive_calls c v A n cap l _ (hl.below b0) hn
 have HB0 := Lib.hid b0
 have HL := Lib.hid hl
 clear hl b0
 cases hact : Vw.active c v l with
 | nil =>
  rw [Vw.slot_nil hact]
  rw [hact] at c1
  clear hact
  go_enter Tryz.func47, Tryz.ntmps47
  go_wp2_with fail
  refine c1.mono ?_
  rintro e w1 ⟨v1, rfl, hown, b1⟩
  obtain ⟨A1, cap1, rfl, _⟩ := Vw.Ints.of_own hown
  have B1 := Lib.hid b1
  clear hown b1
  go_wp2_with fail
  go_ret2
  exact ⟨rfl, HB0.out.trans (B1.out.mono HB0.out.size)⟩
 | cons p r =>
  rw [Vw.slot_cons hact]
  have hmem : ∀ x ∈ p :: r, x < n := fun x hx => by
   have h1 : x ∈ Vw.active c v l := by rw [hact]; exact hx
   have := Vw.mem_places (c := c) (v := v) (so := Vw.act) (l := l) (k := l.length) (i := x) h1
   rw [HL.out.len] at this
   exact this
  have hpn : p < n := hmem p (by simp)
  have hlen : (p :: r).length ≤ n := by
   have := Vw.places_len c v Vw.act l l.length
   rw [HL.out.len] at this
   rw [← hact]
   unfold Vw.active
   rw [HL.out.len]
   exact this
  have HM := Lib.hid hmem
  have hkl : p < l.length := by rw [HL.out.len]; exact hpn
  obtain ⟨x, hx⟩ : ∃ x, l[p]? = some x := ⟨_, List.getElem?_eq_getElem hkl⟩
  have hxd : Vw.psAt l p = x.ps := by unfold Vw.psAt; rw [List.getD_eq_getElem?_getD, hx]; rfl
  have HXX := Lib.hid hx
  rw [hxd]
  rw [hact] at c1
  clear hx hxd
  clear hact hmem
  have hlp : 0 < (p :: r).length := by simp
  have hp0 : (p :: r)[0]? = some p := rfl
  have HP0 := Lib.hid hp0
  clear hp0
  generalize hpr : p :: r = pl at *
  clear hpr
  have hz : ((pl.length : Int) == 0) = false := by rw [beq_eq_false_iff_ne]; omega
  cases han : pl.any (fun i => Vw.psAt l i != x.ps)
  ·have hcond : (if false = true then none else some x.ps) = some x.ps := rfl
   rw [hcond]
   go_enter Tryz.func47, Tryz.ntmps47
   go_wp2_with fail
   refine c1.mono ?_
   rintro e w1 ⟨v1, rfl, hown, b1⟩
   obtain ⟨A1, cap1, rfl, hint⟩ := Vw.Ints.of_own hown
   obtain ⟨g1, off1, rfl, hg1, hcells⟩ := hint.at_ (by omega)
   have m0 := hcells 0 p HP0.out
   rw [Nat.add_zero] at m0
   obtain ⟨b, off, rfl, hb, hrow⟩ := HL.out.row (by omega)
   have bw1 : Below w.heap.size w w1 := HB0.out.trans (b1.mono HB0.out.size)
   have r3 := Kit.cell_below bw1 (hrow p x HXX.out).2.2.2
   obtain ⟨hcc, hff⟩ := Kit.bcell b1
   have hz1 : w.heap.size + 1 < w1.heap.size := by have := b1.size; simp at this; omega
   have hz0 : w.heap.size < w1.heap.size := by omega
   have hb1 : b < w1.heap.size := by omega
   have HI := Lib.hid hint
   have BW1 := Lib.hid bw1
   clear hown b1 hcells hrow bw1 hint
   have q1 : w1.cell? ⟨w.heap.size + 1, 0, none⟩ = some (.slice (some ⟨b, off, none⟩) n cap) := by rw [hcc _ _ (by simp)]; go_simp
   have b2 : Below w1.heap.size w1 (w1.alloc (.cells #[.int .i64 x.ps] 3)).drew := ((Below.refl _ _).alloc (Nat.le_refl _) _).drew
   have c2 := Vw.cfunc_calls (some ⟨g1, off1, none⟩) pl.length cap1 pl 77 #[.pointer (some ⟨w.heap.size + 1, 0, none⟩), .pointer (some ⟨w1.heap.size, 0, none⟩)] (fun i => Vw.psAt l i != x.ps)
    (w1.alloc (.cells #[.int .i64 x.ps] 3)).drew (HI.out.below b2) (by omega) (Kit.enters Tryz.func77 (by kernel_rfl) rfl)
    (fun W i hW hi => Vw.slotone_calls (some ⟨b, off, none⟩) n cap l i x.ps (w.heap.size + 1) w1.heap.size W ((HL.out.below BW1.out).below (Kit.chain b2 hW)) (HM.out i hi) hn
     (Kit.cell_below (Kit.chain b2 hW) q1) (Kit.cell_below hW (by go_simp)))
   have HB2 := Lib.hid b2
   clear b2 q1
   rw [han] at c2
   clear han
   go_wp2_with fail
   go_region
   go_wp2_with fail
   refine c2.mono ?_
   rintro e w3 ⟨rfl, b3⟩
   have hz3 : w1.heap.size < w3.heap.size := by have := b3.size; simp at this; omega
   have q3 := Kit.cell_below b3 (a := ⟨w1.heap.size, 0, none⟩) (v := .int .i64 x.ps) (by go_simp)
   have B3 := Lib.hid (BW1.out.trans ((Kit.chain HB2.out b3).mono BW1.out.size))
   clear b3 hcc hff
   go_wp2_with fail
   go_ret2
   exact ⟨rfl, B3.out⟩
  ·have hcond : (if true = true then none else some x.ps) = (none : Option Int) := rfl
   rw [hcond]
   go_enter Tryz.func47, Tryz.ntmps47
   go_wp2_with fail
   refine c1.mono ?_
   rintro e w1 ⟨v1, rfl, hown, b1⟩
   obtain ⟨A1, cap1, rfl, hint⟩ := Vw.Ints.of_own hown
   obtain ⟨g1, off1, rfl, hg1, hcells⟩ := hint.at_ (by omega)
   have m0 := hcells 0 p HP0.out
   rw [Nat.add_zero] at m0
   obtain ⟨b, off, rfl, hb, hrow⟩ := HL.out.row (by omega)
   have bw1 : Below w.heap.size w w1 := HB0.out.trans (b1.mono HB0.out.size)
   have r3 := Kit.cell_below bw1 (hrow p x HXX.out).2.2.2
   obtain ⟨hcc, hff⟩ := Kit.bcell b1
   have hz1 : w.heap.size + 1 < w1.heap.size := by have := b1.size; simp at this; omega
   have hz0 : w.heap.size < w1.heap.size := by omega
   have hb1 : b < w1.heap.size := by omega
   have HI := Lib.hid hint
   have BW1 := Lib.hid bw1
   clear hown b1 hcells hrow bw1 hint
   have q1 : w1.cell? ⟨w.heap.size + 1, 0, none⟩ = some (.slice (some ⟨b, off, none⟩) n cap) := by rw [hcc _ _ (by simp)]; go_simp
   have b2 : Below w1.heap.size w1 (w1.alloc (.cells #[.int .i64 x.ps] 3)).drew := ((Below.refl _ _).alloc (Nat.le_refl _) _).drew
   have c2 := Vw.cfunc_calls (some ⟨g1, off1, none⟩) pl.length cap1 pl 77 #[.pointer (some ⟨w.heap.size + 1, 0, none⟩), .pointer (some ⟨w1.heap.size, 0, none⟩)] (fun i => Vw.psAt l i != x.ps)
    (w1.alloc (.cells #[.int .i64 x.ps] 3)).drew (HI.out.below b2) (by omega) (Kit.enters Tryz.func77 (by kernel_rfl) rfl)
    (fun W i hW hi => Vw.slotone_calls (some ⟨b, off, none⟩) n cap l i x.ps (w.heap.size + 1) w1.heap.size W ((HL.out.below BW1.out).below (Kit.chain b2 hW)) (HM.out i hi) hn
     (Kit.cell_below (Kit.chain b2 hW) q1) (Kit.cell_below hW (by go_simp)))
   have HB2 := Lib.hid b2
   clear b2 q1
   rw [han] at c2
   clear han
   go_wp2_with fail
   go_region
   go_wp2_with fail
   refine c2.mono ?_
   rintro e w3 ⟨rfl, b3⟩
   have hz3 : w1.heap.size < w3.heap.size := by have := b3.size; simp at this; omega
   have q3 := Kit.cell_below b3 (a := ⟨w1.heap.size, 0, none⟩) (v := .int .i64 x.ps) (by go_simp)
   have B3 := Lib.hid (BW1.out.trans ((Kit.chain HB2.out b3).mono BW1.out.size))
   clear b3 hcc hff
   go_wp2_with fail
   go_ret2
   exact ⟨rfl, B3.out⟩
end Go.Proofs.YtgiojagdmglinaaGreatDoor
namespace Go.Proofs.YtgiojagdmglinaaGreatDoor
open Go.RowKit
set_option maxHeartbeats 1000000 in
theorem Vw.changedone_calls (A : Option Addr) (n cap : Nat) (m : List Nd) (i : Nat) (x : Nd) (B : Nat) (w : World) (hm : Nodes w A n m) (hn : n ≤ 1000000) (hi : i ≤ 1000000)
  (h1 : w.cell? ⟨B, 0, none⟩ = some (.slice A n cap)) :
  Calls Tryz.prog 81 #[.int .i64 (i : Int), .agg #[.int .i64 x.id, .int .i64 x.md, .int .i64 x.ct, .int .i64 x.ps], .pointer (some ⟨B, 0, none⟩)] w
   fun e w' => e = .returned (.bool (Vw.act i x && (decide (m.length ≤ i) || !Vw.act i (m.getD i Nd.zero)))) ∧ Below w.heap.size w w' := by
 have hB := World.block_lt_of_cell? w ⟨B, 0, none⟩ h1
 have ca : ∀ W, Calls Tryz.prog 80 #[.int .i64 (i : Int), .agg #[.int .i64 x.id, .int .i64 x.md, .int .i64 x.ct, .int .i64 x.ps]] W fun e w' => e = .returned (.bool (Vw.act i x)) ∧ Below W.heap.size W w' := fun W => Vw.active_calls _ _ _ _ _ W
 rw [hm.len]
 cases ha : Vw.act i x with
 | false =>
  rw [ha] at ca
  clear ha
  go_enter Tryz.func81, Tryz.ntmps81
  go_wp2_with fail
  refine (ca _).mono ?_
  rintro e w1 ⟨rfl, b1⟩
  go_wp2_with fail
  go_ret
  exact ⟨rfl, Kit.chain ((Below.refl _ _).alloc (Nat.le_refl _) _) b1⟩
 | true =>
  rw [ha] at ca
  clear ha
  by_cases hin : n ≤ i
  ·have hd : decide (n ≤ i) = true := decide_eq_true hin
   rw [hd]
   clear hd
   go_enter Tryz.func81, Tryz.ntmps81
   go_wp2_with fail
   refine (ca _).mono ?_
   rintro e w1 ⟨rfl, b1⟩
   obtain ⟨hcc, hff⟩ := Kit.bcell b1
   have B1 := Lib.hid (Kit.chain ((Below.refl _ _).alloc (Nat.le_refl _) _) b1)
   clear b1
   go_wp2_with fail
   go_ret
   exact ⟨rfl, B1.out⟩
  ·have hd : decide (n ≤ i) = false := decide_eq_false hin
   rw [hd]
   clear hd
   obtain ⟨b, off, rfl, hb, hrow⟩ := hm.row (by omega)
   have hkl : i < m.length := by rw [hm.len]; omega
   obtain ⟨y, hy⟩ : ∃ y, m[i]? = some y := ⟨_, List.getElem?_eq_getElem hkl⟩
   have hyd : m.getD i Nd.zero = y := by rw [List.getD_eq_getElem?_getD, hy]; rfl
   rw [hyd]
   obtain ⟨r0, r1, r2, r3⟩ := hrow i y hy
   have cb : ∀ W, Calls Tryz.prog 80 #[.int .i64 (i : Int), .agg #[.int .i64 y.id, .int .i64 y.md, .int .i64 y.ct, .int .i64 y.ps]] W fun e w' => e = .returned (.bool (Vw.act i y)) ∧ Below W.heap.size W w' := fun W => Vw.active_calls _ _ _ _ _ W
   have hin' : i < n := by omega
   generalize Vw.act i y = q at *
   clear hrow hy hyd hm hin
   go_enter Tryz.func81, Tryz.ntmps81
   go_wp2_with fail
   refine (ca _).mono ?_
   rintro e w1 ⟨rfl, b1⟩
   have ba := Kit.chain ((Below.refl _ _).alloc (Nat.le_refl _) _) b1
   have h1' := Kit.cell_below ba h1
   have s0 := Kit.cell_below ba r0
   have s1 := Kit.cell_below ba r1
   have s2 := Kit.cell_below ba r2
   have s3 := Kit.cell_below ba r3
   have B1 := Lib.hid ba
   clear b1 ba r0 r1 r2 r3
   go_wp2_with fail
   refine (cb _).mono ?_
   rintro e w2 ⟨rfl, b2⟩
   have B2 := Lib.hid (Kit.chain B1.out b2)
   clear b2
   go_wp2_with fail
   all_goals (go_ret; exact ⟨by simp [show ¬ n ≤ i by omega], B2.out⟩)
set_option maxHeartbeats 400000 in
theorem Vw.vchanged_calls (c v : Int) (A A2 : Option Addr) (n cap n2 cap2 : Nat) (l m : List Nd) (w : World) (hl : Nodes w A n l) (hm : Nodes w A2 n2 m) (hn : n ≤ 1000000) (hn2 : n2 ≤ 1000000) :
  Calls Tryz.prog 51 #[.agg #[.int .i64 c, .int .i64 v], .slice A n cap, .slice A2 n2 cap2] w (Vw.Row w (Vw.changed c v l m)) := by
 have b0 : Below w.heap.size w ((w.alloc (.cells #[.int .i64 c, .int .i64 v] 24)).alloc (.cells #[.slice A2 n2 cap2] 25)) := ((Below.refl w.heap.size w).alloc (Nat.le_refl _) _).alloc (by simp) _
 have c1 := Vw.places_calls c v A n cap l 81 #[.pointer (some ⟨w.heap.size + 1, 0, none⟩)] (fun i x => Vw.act i x && (decide (m.length ≤ i) || !Vw.act i (m.getD i Nd.zero))) _ (hl.below b0) hn
  (Kit.enters Tryz.func81 (by kernel_rfl) rfl)
  (fun W i x hW hi => Vw.changedone_calls A2 n2 cap2 m i x (w.heap.size + 1) W (hm.below (Kit.chain b0 hW)) hn2 (by have := (List.getElem?_eq_some_iff.1 hi).1; rw [hl.len] at this; omega) (Kit.cell_below hW (by go_simp)))
 have B0 := Lib.hid b0
 have hlen := hl.len
 unfold Vw.changed
 rw [hlen]
 generalize Vw.places c v (fun i x => Vw.act i x && (decide (m.length ≤ i) || !Vw.act i (m.getD i Nd.zero))) l n = pl at *
 clear hl hm hlen b0
 go_enter Tryz.func51, Tryz.ntmps51
 go_wp2_with fail
 refine c1.mono ?_
 rintro e w1 ⟨v1, rfl, hown, b1⟩
 have B1 := Lib.hid (Kit.chain B0.out b1)
 have HO := Lib.hid (Kit.own_weaken hown B0.out.size)
 clear hown b1
 go_wp2_with fail
 go_ret
 exact ⟨_, rfl, HO.out, B1.out⟩
def Vw.cnt (l : List Nd) (m : Int) (k : Nat) : Nat := ((l.take k).filter fun x => x.md == m).length
theorem Vw.cnt_succ (l : List Nd) (m : Int) (k : Nat) (x : Nd) (h : l[k]? = some x) : Vw.cnt l m (k + 1) = Vw.cnt l m k + if x.md = m then 1 else 0 := by
 obtain ⟨hk, he⟩ := List.getElem?_eq_some_iff.1 h
 unfold Vw.cnt
 rw [List.take_succ_eq_append_getElem hk, List.filter_append, List.length_append, he]
 by_cases e : x.md = m
 ·simp [e]
 ·simp [e]
theorem Vw.cnt_le (l : List Nd) (m : Int) (k : Nat) : Vw.cnt l m k ≤ k := by
 unfold Vw.cnt
 have h1 := List.length_filter_le (fun x : Nd => x.md == m) (l.take k)
 have h2 : (l.take k).length ≤ k := List.length_take_le k l
 omega
def Vw.modesV (l : List Nd) : Value := .agg #[.int .i64 (Vw.cnt l 0 l.length : Nat), .int .i64 (Vw.cnt l 1 l.length : Nat), .int .i64 (Vw.cnt l 2 l.length : Nat), .int .i64 (Vw.cnt l 3 l.length : Nat)]
end Go.Proofs.YtgiojagdmglinaaGreatDoor
namespace Go.Proofs.YtgiojagdmglinaaGreatDoor
open Go.RowKit
set_option maxHeartbeats 400000 in
theorem Vw.rnode_calls (c v i : Int) (w : World) :
  Calls Tryz.prog 22 #[.agg #[.int .i64 c, .int .i64 v], .int .i64 i] w fun e w' => e = .returned (.bool (c == 1 && v == i)) ∧ Below w.heap.size w w' := by
 go_enter Tryz.func22, Tryz.ntmps22
 go_wp2_with fail
 all_goals (go_ret; exact ⟨by simp_all, (Below.refl _ _).alloc (Nat.le_refl _) _⟩)
def Vw.isB (c v : Int) (l : List Nd) (i : Nat) : Bool := decide (i < l.length) && (Vw.act i (l.getD i Nd.zero) && !Vw.fnode c v i)
set_option maxHeartbeats 400000 in
theorem Vw.ris_calls (c v : Int) (A : Option Addr) (n cap : Nat) (l : List Nd) (i : Nat) (w : World) (hl : Nodes w A n l) (hn : n ≤ 1000000) :
  Calls Tryz.prog 45 #[.agg #[.int .i64 c, .int .i64 v], .slice A n cap, .int .i64 (i : Int)] w fun e w' => e = .returned (.bool (Vw.isB c v l i)) ∧ Below w.heap.size w w' := by
 unfold Vw.isB
 rw [hl.len]
 by_cases hi : i < n
 ·have hd : decide (i < n) = true := decide_eq_true hi
  rw [hd]
  clear hd
  obtain ⟨b, off, rfl, hb, hrow⟩ := hl.row (by omega)
  have hkl : i < l.length := by rw [hl.len]; omega
  obtain ⟨y, hy⟩ : ∃ y, l[i]? = some y := ⟨_, List.getElem?_eq_getElem hkl⟩
  have hyd : l.getD i Nd.zero = y := by rw [List.getD_eq_getElem?_getD, hy]; rfl
  rw [hyd]
  obtain ⟨r0, r1, r2, r3⟩ := hrow i y hy
  clear hrow hy hyd hl hkl r0 r2 r3
  have cf : ∀ W, Calls Tryz.prog 22 #[.agg #[.int .i64 c, .int .i64 v], .int .i64 (i : Int)] W fun e w' => e = .returned (.bool (Vw.fnode c v i)) ∧ Below W.heap.size W w' := fun W => Vw.rnode_calls c v i W
  generalize Vw.fnode c v i = q at *
  cases ha : Vw.act i y with
  | false =>
   have e1 : (y.md == 3) = false := ha
   clear ha
   go_enter Tryz.func45, Tryz.ntmps45
   go_wp2_with fail
   go_ret
   exact ⟨rfl, (Below.refl _ _).alloc (Nat.le_refl _) _⟩
  | true =>
   have e1 : (y.md == 3) = true := ha
   clear ha
   go_enter Tryz.func45, Tryz.ntmps45
   go_wp2_with fail
   refine (cf _).mono ?_
   rintro e w1 ⟨rfl, b1⟩
   go_wp2_with fail
   go_ret
   exact ⟨by simp, Kit.chain ((Below.refl _ _).alloc (Nat.le_refl _) _) b1⟩
 ·have hd : decide (i < n) = false := decide_eq_false hi
  rw [hd]
  have hd2 : decide ((i : Int) < (n : Int)) = false := decide_eq_false (by omega)
  have hni : n ≤ i := by omega
  clear hd hi
  go_enter Tryz.func45, Tryz.ntmps45
  go_wp2_with fail
  go_ret
  exact ⟨rfl, (Below.refl _ _).alloc (Nat.le_refl _) _⟩
def Vw.sameB (l m : List Nat) : Bool := l == m
end Go.Proofs.YtgiojagdmglinaaGreatDoor
