/-
  The walks of package view and of fault.Node.
-/
import Derived.Test.YtpbkoooljelhjaaProg
import Derived.Test.YtpbkoooljelhjaaVw0
import Derived.WalkKit
import Derived.WalkLawsBesides
import Derived.WalkSpells
import Derived.Lib.Hide
import Derived.Deep.LoopGhost
import Derived.Deep.QuietTactic
import Derived.BigQuiet
import Derived.Laws.StructEq
namespace Go.Proofs.Ytpbkoooljelhjaa
set_option linter.unusedVariables false
set_option linter.unusedSimpArgs false
open Go.RowKit

set_option maxHeartbeats 400000 in
set_option maxRecDepth 100000 in
/-- fault.Node. -/
theorem Vw.fnode_calls (c v i : Int) (w : World) :
    Calls Try.prog 112 #[.agg #[.int .i64 c, .int .i64 v], .int .i64 i] w fun e w' => e = .returned (.bool (c == 1 && v == i)) ∧ Below w.heap.size w w' := by
  go_enter Try.func112, Try.ntmps112
  go_wp2_with fail
  all_goals (go_ret; exact ⟨by simp_all, (Below.refl _ _).alloc (Nat.le_refl _) _⟩)

set_option maxHeartbeats 400000 in
set_option maxRecDepth 100000 in
theorem Vw.active_calls (i a m c p : Int) (w : World) :
    Calls Try.prog 89 #[.int .i64 i, .agg #[.int .i64 a, .int .i64 m, .int .i64 c, .int .i64 p]] w fun e w' => e = .returned (.bool (m == 3)) ∧ Below w.heap.size w w' := by
  go_enter Try.func89, Try.ntmps89
  go_wp2_with fail
  go_ret
  exact ⟨rfl, (Below.refl _ _).alloc (Nat.le_refl _) _⟩

set_option maxHeartbeats 400000 in
set_option maxRecDepth 100000 in
theorem Vw.allone_calls (i a m c p : Int) (w : World) :
    Calls Try.prog 90 #[.int .i64 i, .agg #[.int .i64 a, .int .i64 m, .int .i64 c, .int .i64 p]] w fun e w' => e = .returned (.bool (!(m == 3))) ∧ Below w.heap.size w w' := by
  go_enter Try.func90, Try.ntmps90
  go_wp2_with fail
  refine (Vw.active_calls _ _ _ _ _ _).mono ?_
  rintro e w1 ⟨rfl, h1⟩
  go_wp2_with fail
  go_ret
  exact ⟨rfl, Kit.chain ((Below.refl _ _).alloc (Nat.le_refl _) _) h1⟩

theorem Vw.infoInt : (Try.prog.info? 3).map (fun i => (i.zero, i.size, i.bytes)) = some (some (.int .i64 0), 1, 8) := by kernel_rfl

/-- What is asked of a function that is handed to places. -/
def Vw.So (g : Nat) (lb : Array Value) (so : Nat → Nd → Bool) (l : List Nd) (w : World) : Prop :=
  ∀ (W : World) (i : Nat) (x : Nd), Below w.heap.size w W → l[i]? = some x → Calls Try.prog g (#[.int .i64 (i : Int), .agg #[.int .i64 x.id, .int .i64 x.md, .int .i64 x.ct, .int .i64 x.ps]] ++ lb) W
    fun e w' => e = .returned (.bool (so i x)) ∧ Below W.heap.size W w'

/-- What places answers: a list of the call's own. -/
def Vw.Row (w : World) (pl : List Nat) (e : Ending) (w' : World) : Prop :=
  ∃ v, e = .returned v ∧ w'.ownsRow w.heap.size 3 1 v pl.length (Vw.ints pl) ∧ Below w.heap.size w w'

set_option maxHeartbeats 1000000 in
set_option maxRecDepth 100000 in
/-- view.places. -/
theorem Vw.places_calls (c v : Int) (A : Option Addr) (n cap : Nat) (l : List Nd) (g : Nat) (lb : Array Value) (so : Nat → Nd → Bool) (w : World) (hl : Nodes w A n l) (hn : n ≤ 1000000)
    (eg : ∀ args w, (callFunc g args).run Try.prog w = .ok (.enter g args) w) (hso : Vw.So g lb so l w) :
    Calls Try.prog 87 #[.agg #[.int .i64 c, .int .i64 v], .slice A n cap, .func (.func g) #[] lb] w (Vw.Row w (Vw.places c v so l n)) := by
  obtain ⟨i0, hi, hz0, hz1, hz2⟩ := info_parts Vw.infoInt
  have HL := Lib.hid hl
  have HSo : Hid (Vw.So g lb so l w) := Lib.hid hso
  clear hl hso
  go_enter Try.func87, Try.ntmps87
  go_wp2_with fail
  go_loopw [7, 8, 9, 12] (fun vo _ _ vi wr => ∃ k : Nat, k ≤ n ∧ vi = .int .i64 k ∧ wr.ownsRow (w.heap.size + 1) 3 1 vo (Vw.places c v so l k).length (Vw.ints (Vw.places c v so l k)) ∧ wr.cell? ⟨w.heap.size, 0, none⟩ = some (.int .i64 c) ∧ wr.cell? ⟨w.heap.size, 1, none⟩ = some (.int .i64 v) ∧ Hid (Below w.heap.size w wr))
    (fun _ _ _ vi _ => n - (intOf vi).toNat)
  case atStart => exact ⟨0, by omega, rfl, World.ownsRow_nil _ _ _ _, by go_simp, by go_simp, Lib.hid ((Below.refl _ _).alloc (Nat.le_refl _) _)⟩
  case round =>
    obtain ⟨k, hk, rfl, hown, hc0, hc1, HB⟩ := hrel
    by_cases hlt : k < n
    · obtain ⟨b, off, rfl, hb, hrow⟩ := HL.out.row (by omega)
      have hkl : k < l.length := by rw [HL.out.len]; exact hlt
      obtain ⟨x, hx⟩ : ∃ x, l[k]? = some x := ⟨_, List.getElem?_eq_getElem hkl⟩
      have hxd : l.getD k Nd.zero = x := by rw [List.getD_eq_getElem?_getD, hx]; rfl
      obtain ⟨r0, r1, r2, r3⟩ := hrow k x hx
      have m0 := (HB.out.cell (p := ⟨b, off + k * 4, none⟩) hb).trans r0
      have m1 := (HB.out.cell (p := ⟨b, off + k * 4 + 1, none⟩) hb).trans r1
      have m2 := (HB.out.cell (p := ⟨b, off + k * 4 + 2, none⟩) hb).trans r2
      have m3 := (HB.out.cell (p := ⟨b, off + k * 4 + 3, none⟩) hb).trans r3
      have hws : w.heap.size < wr.heap.size := World.block_lt_of_cell? wr ⟨w.heap.size, 0, none⟩ hc0
      have hsucc := Vw.places_succ c v so l k
      rw [hxd] at hsucc
      have hplen := Vw.places_len c v so l k
      have HX := Lib.hid hx
      have cf : ∀ W, Calls Try.prog 112 #[.agg #[.int .i64 c, .int .i64 v], .int .i64 (k : Int)] W fun e w' => e = .returned (.bool (Vw.fnode c v k)) ∧ Below W.heap.size W w' := fun W => Vw.fnode_calls c v k W
      clear r0 r1 r2 r3 hrow hxd hx
      cases hq : Vw.fnode c v k with
      | true =>
        rw [hq] at cf hsucc
        have hs : Vw.places c v so l (k + 1) = Vw.places c v so l k := by rw [hsucc]; simp
        have HS := Lib.hid hs
        clear hs hsucc hq
        go_wp2_with fail
        refine (cf _).mono ?_
        rintro e w1 ⟨rfl, b1⟩
        have ba : Below wr.heap.size wr w1 := Kit.chain ((Below.refl _ _).alloc (Nat.le_refl _) _) b1
        clear b1
        go_wp2_with fail
        go_roundw
        case rel => exact ⟨k + 1, by omega, by go_num, by rw [HS.out]; exact Kit.own_below hown ba, Kit.cell_below ba hc0, Kit.cell_below ba hc1, Lib.hid (HB.out.trans (ba.mono HB.out.size))⟩
        case measure => simp [intOf]; omega
      | false =>
        rw [hq] at cf hsucc
        have cs : ∀ W, Below w.heap.size w W → _ := fun W hW => HSo.out W k x hW HX.out
        cases hs0 : so k x with
        | false =>
          rw [hs0] at cs hsucc
          have hs : Vw.places c v so l (k + 1) = Vw.places c v so l k := by rw [hsucc]; simp
          have HS := Lib.hid hs
          clear hs hsucc hq hs0
          go_wp2_with fail
          refine (cf _).mono ?_
          rintro e w1 ⟨rfl, b1⟩
          have ba : Below wr.heap.size wr w1 := Kit.chain ((Below.refl _ _).alloc (Nat.le_refl _) _) b1
          have bw : Below w.heap.size w w1 := HB.out.trans (ba.mono HB.out.size)
          obtain ⟨hcc, hff⟩ := Kit.bcell b1
          have BA := Lib.hid ba
          have cs1 := cs w1 bw
          clear b1 ba bw cs
          go_wp2_with fail
          refine cs1.mono ?_
          rintro e w2 ⟨rfl, b2⟩
          have BB := Lib.hid (Kit.chain BA.out b2)
          clear b2
          go_wp2_with fail
          go_roundw
          case rel => exact ⟨k + 1, by omega, by go_num, by rw [HS.out]; exact Kit.own_below hown BB.out, Kit.cell_below BB.out hc0, Kit.cell_below BB.out hc1, Lib.hid (HB.out.trans (BB.out.mono HB.out.size))⟩
          case measure => simp [intOf]; omega
        | true =>
          rw [hs0] at cs hsucc
          have hs : Vw.places c v so l (k + 1) = Vw.places c v so l k ++ [k] := by rw [hsucc]; simp
          have HS := Lib.hid hs
          clear hs hsucc hq hs0
          go_wp2_with fail
          refine (cf _).mono ?_
          rintro e w1 ⟨rfl, b1⟩
          have ba : Below wr.heap.size wr w1 := Kit.chain ((Below.refl _ _).alloc (Nat.le_refl _) _) b1
          have bw : Below w.heap.size w w1 := HB.out.trans (ba.mono HB.out.size)
          obtain ⟨hcc, hff⟩ := Kit.bcell b1
          have BA := Lib.hid ba
          have cs1 := cs w1 bw
          clear b1 ba bw cs
          go_wp2_with fail
          refine cs1.mono ?_
          rintro e w2 ⟨rfl, b2⟩
          have BB := Lib.hid (Kit.chain BA.out b2)
          have hown2 := Kit.own_below hown BB.out
          have hsz2 := (HB.out.trans (BB.out.mono HB.out.size)).size
          have hsz3 : w.heap.size < w2.heap.size := Nat.lt_of_lt_of_le hws BB.out.size
          clear b2 hcc hff
          go_wp2_with (at_builtin; refine wpList_append_own _ rfl _ _ 37 rfl (w.heap.size + 1) 3 i0 (.int .i64 0) 1 8 Try.underlying37 hi hz0 hz1 hz2 rfl (by decide) _ _ _ rfl (hown2.alloc _) ⟨w2.heap.size, 0, none⟩ 1 1 [.int .i64 (k : Int)] rfl rfl ?c1 ?c2 ?c3 ?c4 ?c5 ?_)
          case c1 => exact cell_one_new _ _ _
          case c2 => intro u hu; simp at hu; subst hu; rfl
          case c3 => unfold maxLen; omega
          case c4 => omega
          case c5 => simp; omega
          · intro v' w3 hown' hgrow _
            have hb7 := Kit.own_base hown2
            have bw2 := HB.out.trans (BB.out.mono HB.out.size)
            have b3 : Below w.heap.size w w3 := (bw2.alloc bw2.size _).grown hgrow (by have := bw2.size; simp; omega) (fun q hq => by have := hb7 q hq; omega)
            have d0 := Kit.grown_cell hgrow (b := w.heap.size) (o := 0) (v := .int .i64 c) (fun q hq => by have := hb7 q hq; omega) (by rw [World.cell?_alloc_past _ _ _ hsz3]; exact Kit.cell_below BB.out hc0)
            have d1 := Kit.grown_cell hgrow (b := w.heap.size) (o := 1) (v := .int .i64 v) (fun q hq => by have := hb7 q hq; omega) (by rw [World.cell?_alloc_past _ _ _ hsz3]; exact Kit.cell_below BB.out hc1)
            have B3 := Lib.hid b3
            clear b3 hown2 hgrow bw2 hb7
            go_wp2
            go_roundw
            case rel => exact ⟨k + 1, by omega, by go_num, by rw [HS.out, List.length_append]; unfold Vw.ints; rw [List.map_append]; exact hown', d0, d1, B3⟩
            case measure => simp [intOf]; omega
    · obtain rfl : k = n := by omega
      go_wp2_with fail
      go_ret
      exact ⟨_, rfl, Kit.own_weaken hown (by omega), HB.out⟩
end Go.Proofs.Ytpbkoooljelhjaa
