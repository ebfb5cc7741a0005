/-
  Part 24 of a merged text.
-/
import Derived.Test.YtgiojagdmglinaaGreatDoorGb05
import Derived.Test.YtgiojagdmglinaaGreatDoorProg
import Derived.Test.YtgiojagdmglinaaGreatDoorGb00
import Derived.Laws.AppendOwnNone
import Derived.Lib.BufferMore
import Derived.Test.YtgiojagdmglinaaGreatDoorGb18
import Derived.Test.YtgiojagdmglinaaGreatDoorGb23
import Derived.Deep.RegionWith
import Derived.Great.Walk
import Derived.Test.YtgiojagdmglinaaGreatDoorGb22
import Derived.Test.YtgiojagdmglinaaGreatDoorGb21
set_option linter.unusedVariables false
set_option linter.unusedSimpArgs false
set_option maxRecDepth 100000
namespace Go.Proofs.YtgiojagdmglinaaGreatDoor
open Go.RowKit
namespace Cl
def cells (l : List Nd) : List Value := (l.map Nd.cells).flatten
theorem cells_len (l : List Nd) : (cells l).length = l.length * 4 := by
 unfold cells
 induction l with
 | nil => rfl
 | cons a l ih => rw [List.map_cons, List.flatten_cons, List.length_append, ih, List.length_cons]; simp [Nd.cells]; omega
theorem cells_get (l : List Nd) (j : Nat) (z : Nd) (h : l[j]? = some z) : (cells l)[j * 4]? = some (.int .i64 z.id) ∧ (cells l)[j * 4 + 1]? = some (.int .i64 z.md) ∧ (cells l)[j * 4 + 2]? = some (.int .i64 z.ct) ∧ (cells l)[j * 4 + 3]? = some (.int .i64 z.ps) := by
 have hk : ∀ c ∈ l.map Nd.cells, c.length = 4 := by
  intro c hc
  obtain ⟨x, _, rfl⟩ := List.mem_map.1 hc
  rfl
 have hj : (l.map Nd.cells)[j]? = some z.cells := by rw [List.getElem?_map, h]; rfl
 exact ⟨flat_get 4 _ hk j _ hj 0 _ rfl, flat_get 4 _ hk j _ hj 1 _ rfl, flat_get 4 _ hk j _ hj 2 _ rfl, flat_get 4 _ hk j _ hj 3 _ rfl⟩
theorem cells_one (l : List Nd) : ∀ u ∈ cells l, u.oneCell' = true := by
 intro u hu
 unfold cells at hu
 obtain ⟨c, hc, hu⟩ := List.mem_flatten.1 hu
 obtain ⟨x, _, rfl⟩ := List.mem_map.1 hc
 simp [Nd.cells] at hu
 rcases hu with rfl | rfl | rfl | rfl <;> rfl
theorem cells_set (l : List Nd) : ∀ (j : Nat) (z : Nd), j < l.length → ((((cells l).set (j * 4) (.int .i64 z.id)).set (j * 4 + 1) (.int .i64 z.md)).set (j * 4 + 2) (.int .i64 z.ct)).set (j * 4 + 3) (.int .i64 z.ps) = cells (l.set j z) := by
 induction l with
 | nil => intro j z h; simp at h
 | cons a l ih =>
  intro j z h
  cases j with
  | zero => simp [cells, Nd.cells]
  | succ j =>
   have h' : j < l.length := by simpa using h
   have := ih j z h'
   have e : ∀ k, (j + 1) * 4 + k = (j * 4 + k) + 4 := by intro k; omega
   have e0 : (j + 1) * 4 = j * 4 + 4 := by omega
   simp only [cells, List.map_cons, List.flatten_cons, List.set_cons_succ, Nd.cells] at this ⊢
   rw [e0, show j * 4 + 4 + 1 = j * 4 + 1 + 4 by omega, show j * 4 + 4 + 2 = j * 4 + 2 + 4 by omega, show j * 4 + 4 + 3 = j * 4 + 3 + 4 by omega]
   simp only [List.cons_append, List.nil_append, List.set_cons_succ]
   rw [this]
theorem frames {w : World} {a : Addr} {n : Nat} {l : List Nd} (h : Nodes w (some a) n l) : (cells l).length = n * 4 ∧ ∀ j u, (cells l)[j]? = some u → w.cell? (a.add j) = some u := by
 refine ⟨by rw [cells_len, h.len], fun j u hu => ?_⟩
 have hj : j < l.length * 4 := by have := (List.getElem?_eq_some_iff.1 hu).1; rwa [cells_len] at this
 obtain ⟨b, off, e, hb, hrow⟩ := h.row (by have := h.len; omega)
 injection e with e
 subst e
 have ha : (⟨b, off, none⟩ : Addr).add j = ⟨b, off + j, none⟩ := by unfold Addr.add; split <;> simp_all
 rw [ha]
 have hq : j / 4 < l.length := by omega
 have hx : l[j / 4]? = some l[j / 4] := List.getElem?_eq_getElem hq
 obtain ⟨g0, g1, g2, g3⟩ := cells_get l _ _ hx
 obtain ⟨m0, m1, m2, m3⟩ := hrow _ _ hx
 have hm : j % 4 = 0 ∨ j % 4 = 1 ∨ j % 4 = 2 ∨ j % 4 = 3 := by omega
 rcases hm with hm | hm | hm | hm
 ·have ej : j = j / 4 * 4 := by omega
  generalize j / 4 = q at *
  subst ej
  rw [g0] at hu; injection hu with hu; rw [← hu]; exact m0
 ·have ej : j = j / 4 * 4 + 1 := by omega
  rw [ej] at hu
  rw [ej, ← Nat.add_assoc]
  rw [g1] at hu; injection hu with hu; rw [← hu]; exact m1
 ·have ej : j = j / 4 * 4 + 2 := by omega
  rw [ej] at hu
  rw [ej, ← Nat.add_assoc]
  rw [g2] at hu; injection hu with hu; rw [← hu]; exact m2
 ·have ej : j = j / 4 * 4 + 3 := by omega
  rw [ej] at hu
  rw [ej, ← Nat.add_assoc]
  rw [g3] at hu; injection hu with hu; rw [← hu]; exact m3
end Cl
end Go.Proofs.YtgiojagdmglinaaGreatDoor
namespace Go.Proofs.YtgiojagdmglinaaGreatDoor
open Go.RowKit
theorem Cl.info : (Tryz.prog.info? 60).map (fun i => (i.zero, i.size, i.bytes)) = some (some (.agg #[.int .i64 0, .int .i64 0, .int .i64 0, .int .i64 0]), 4, 32) := by kernel_rfl
set_option maxHeartbeats 1000000 in
theorem Cl.clone_calls (A : Option Addr) (n cap : Nat) (l : List Nd) (w : World) (hl : Nodes w A n l) (hn : n ≤ 1000000) :
  Calls Tryz.prog 71 #[.slice A n cap] w fun e w' => ∃ v, e = .returned v ∧ w'.ownsRow w.heap.size 60 4 v n (Cl.cells l) ∧ Below w.heap.size w w' := by
 obtain ⟨i0, hi, hz0, hz1, hz2⟩ := info_parts Cl.info
 cases A with
 | none =>
  have h0 : n = 0 := by
   rcases Nat.eq_zero_or_pos n with h | h
   ·exact h
   ·obtain ⟨b, off, e, _⟩ := hl.row h
    cases e
  subst h0
  have hl0 : l = [] := List.eq_nil_of_length_eq_zero hl.len
  subst hl0
  have hnil := fun (w : World) => Go.Lib.run_eql_slice_nil_nil (P := Tryz.prog) w 0 cap Tryz.underlying25
  go_enter Tryz.func71, Tryz.ntmps71
  go_wp2_with fail
  go_ret
  exact ⟨_, rfl, World.ownsRow_nil _ _ _ _, Below.refl _ _⟩
 | some a =>
  have hnews := fun (W : World) (hW : Below w.heap.size w W) => Cl.frames (hl.below hW)
  have HN := Lib.hid hnews
  have hone := Cl.cells_one l
  clear hl hnews
  have hnil := fun (w : World) => Go.Lib.run_eql_slice_some_nil (P := Tryz.prog) w a n cap Tryz.underlying25
  go_enter Tryz.func71, Tryz.ntmps71
  go_wp2_with (at_builtin; go_loud (refine wpList_append_own _ rfl _ _ 25 rfl w.heap.size 60 i0 (.agg #[.int .i64 0, .int .i64 0, .int .i64 0, .int .i64 0]) 4 32 Tryz.underlying25 hi hz0 hz1 hz2 rfl (by decide) _ _ _ rfl (World.ownsRow_lit w #[] 0 (Nat.le_refl _) (by unfold maxLen; omega) rfl) a n cap (Cl.cells l) rfl ?c1 ?c2 ?c3 ?c4 ?c5 ?c6 ?_))
  case c1 => exact (HN.out w (Below.refl _ _)).1
  case c2 => exact (HN.out _ ((Below.refl _ _).alloc (Nat.le_refl _) _)).2
  case c3 => exact hone
  case c4 => unfold maxLen; omega
  case c5 => omega
  case c6 => simp
  ·intro v' w3 hown' hgrow _
   have b3 : Below w.heap.size w w3 := ((Below.refl _ _).alloc (Nat.le_refl _) _).grown hgrow (by simp) (fun q hq => by simp [Value.ownBlock] at hq; omega)
   have B3 := Lib.hid b3
   clear b3 hgrow
   have hown2 : w3.ownsRow w.heap.size 60 4 v' n (Cl.cells l) := by simpa using hown'
   clear hown'
   go_wp2
   go_ret
   exact ⟨_, rfl, hown2, B3.out⟩
end Go.Proofs.YtgiojagdmglinaaGreatDoor
namespace Go.Proofs.YtgiojagdmglinaaGreatDoor
open Go.RowKit
namespace Tk
def mid (x : Wd) (ch : Ch) (f0 f1 : Fr) (k : Nat) : List Nd := x.nodes.mapIdx fun i y => if i < k then one x ch f0 f1 i y else y
theorem mid_len (x : Wd) (ch : Ch) (f0 f1 : Fr) (k : Nat) : (mid x ch f0 f1 k).length = x.nodes.length := by simp [mid]
theorem mid_at (x : Wd) (ch : Ch) (f0 f1 : Fr) (k : Nat) (y : Nd) (h : x.nodes[k]? = some y) : (mid x ch f0 f1 k)[k]? = some y := by simp [mid, h]
theorem mid_zero (x : Wd) (ch : Ch) (f0 f1 : Fr) : mid x ch f0 f1 0 = x.nodes := by
 apply List.ext_getElem?; intro i
 simp [mid]
theorem mid_succ (x : Wd) (ch : Ch) (f0 f1 : Fr) (k : Nat) (y : Nd) (h : x.nodes[k]? = some y) : mid x ch f0 f1 (k + 1) = (mid x ch f0 f1 k).set k (one x ch f0 f1 k y) := by
 apply List.ext_getElem?; intro i
 obtain ⟨hk, rfl⟩ := List.getElem?_eq_some_iff.1 h
 rw [List.getElem?_set]
 by_cases hi : k = i
 ·subst hi
  simp [mid, hk]
 ·rw [if_neg hi]
  simp only [mid, List.getElem?_mapIdx]
  congr 1; funext y
  have : (i < k + 1) = (i < k) := by apply propext; omega
  simp only [this]
def lst (x : Wd) (ch : Ch) (f0 f1 : Fr) : List Nd := mid x ch f0 f1 x.n
theorem set_own {wr : World} {b0 g cap n : Nat} {q : List Nd} (hown : wr.ownsRow b0 60 4 (.slice (some ⟨g, 0, none⟩) n cap) n (Cl.cells q)) (hq : q.length = n) (k : Nat) (hk : k < n) (x : Nd) :
  ((((wr.setCell ⟨g, k * 4, none⟩ (.int .i64 x.id)).setCell ⟨g, k * 4 + 1, none⟩ (.int .i64 x.md)).setCell ⟨g, k * 4 + 2, none⟩ (.int .i64 x.ct)).setCell ⟨g, k * 4 + 3, none⟩ (.int .i64 x.ps)).ownsRow b0 60 4 (.slice (some ⟨g, 0, none⟩) n cap) n (Cl.cells (q.set k x)) ∧ b0 ≤ g := by
 have h1 := (hown.stored (k * 4) (.int .i64 x.id)).1
 have h2 := (h1.stored (k * 4 + 1) (.int .i64 x.md)).1
 have h3 := (h2.stored (k * 4 + 2) (.int .i64 x.ct)).1
 have h4 := (h3.stored (k * 4 + 3) (.int .i64 x.ps)).1
 rw [Cl.cells_set q k x (by omega)] at h4
 exact ⟨h4, Kit.own_base hown g rfl⟩
theorem own_nodes {wr : World} {b0 g cap n : Nat} {q : List Nd} (hown : wr.ownsRow b0 60 4 (.slice (some ⟨g, 0, none⟩) n cap) n (Cl.cells q)) (hq : q.length = n) : Nodes wr (some ⟨g, 0, none⟩) n q where
 len := by simpa using hq
 at_ := fun hn => by
  obtain ⟨g1, c1, e1, _, h1⟩ := hown.form hn
  injection e1 with e1 _ _
  injection e1 with e1
  injection e1 with e1
  subst e1
  refine ⟨g, 0, rfl, h1, fun j c hj i v hi => ?_⟩
  obtain ⟨y, hy, rfl⟩ : ∃ y, q[j]? = some y ∧ y.cells = c := by
   rw [List.getElem?_map] at hj
   obtain ⟨y, hy, e⟩ := Option.map_eq_some_iff.1 hj
   exact ⟨y, hy, e⟩
  have hjl : j < q.length := (List.getElem?_eq_some_iff.1 hy).1
  have hi4 : i < 4 := by
   have := (List.getElem?_eq_some_iff.1 hi).1
   simpa [Nd.cells] using this
  have hk : ∀ c ∈ q.map Nd.cells, c.length = 4 := by
   intro c hc
   obtain ⟨x, _, rfl⟩ := List.mem_map.1 hc
   rfl
  have := flat_get 4 _ hk j y.cells (by rw [List.getElem?_map, hy]; rfl) i v hi
  rw [Nat.zero_add]
  rw [hown.cellAt (j * 4 + i) (by omega)]
  exact this
set_option maxHeartbeats 4000000 in
theorem listen_calls (base B : Nat) (x : Wd) (ch : Ch) (i0 i1 : Value) (f0 f1 : Fr) (w : World) (hbB : base ≤ B) (R : Kit.Row w B (cells x ch i0 i1 f0 f1)) (hc : ∀ W, Below base w W → ch.There W) (hx : x.Right) (hp : ∀ W, Below base w W → Whole W x.pa x.n x.power) (ht : Nodes w x.na x.n x.nodes)
  (s0 : Wm.Sent x.n f0) (s1 : Wm.Sent x.n f1) :
  Calls Tryz.prog 37 #[.pointer (some ⟨B, 0, none⟩)] w
   fun e w' => e = .returned (.tuple #[]) ∧ ∃ g cap, Kit.Row w' B (cells { x with na := some ⟨g, 0, none⟩, nc := cap, nodes := lst x ch f0 f1 } ch i0 i1 f0 f1) ∧ w'.ownsRow (B + 1) 60 4 (.slice (some ⟨g, 0, none⟩) x.n cap) x.n (Cl.cells (lst x ch f0 f1)) ∧ Below base w w' := by
 have h3 := hx.lo
 have h8 := hx.hi
 have kcl := fun W (hW : Nodes W x.na x.n x.nodes) => Cl.clone_calls x.na x.n x.nc x.nodes W hW (by omega)
 have hlt := R.lt
 have KCL := Lib.hid kcl
 have HT := Lib.hid ht
 have HR := Lib.hid R
 have c5 := R.at_ 5 (.slice x.na x.n x.nc) rfl
 have u5 := R.free 5 (by simp [cells])
 have kn : ∀ k, k < x.n → ∃ y, x.nodes[k]? = some y ∧ Wm.NRight x.n k y := by
  intro k hk
  have hl := hx.nl
  have h1 := hx.nd k hk
  have e : x.nodes[k]? = some (ndAt x.nodes k) := by unfold ndAt; rw [List.getD_eq_getElem?_getD, List.getElem?_eq_getElem (by omega)]; rfl
  exact ⟨_, e, h1⟩
 have HN := Lib.hid kn
 have kone : ∀ (g cap k : Nat) (y : Nd), k < x.n → Wm.NRight x.n k y → ∀ W, Kit.Row W B (cells { x with na := some ⟨g, 0, none⟩, nc := cap } ch i0 i1 f0 f1) → Below base w W → Calls Tryz.prog 72 #[.pointer (some ⟨B, 0, none⟩), .int .i64 k, .agg #[.int .i64 y.id, .int .i64 y.md, .int .i64 y.ct, .int .i64 y.ps]] W
   fun e w' => e = .returned (.agg #[.int .i64 (one x ch f0 f1 k y).id, .int .i64 (one x ch f0 f1 k y).md, .int .i64 (one x ch f0 f1 k y).ct, .int .i64 (one x ch f0 f1 k y).ps]) ∧ Below W.heap.size W w' :=
  fun g cap k y hk hy W hW hb => one_calls B k { x with na := some ⟨g, 0, none⟩, nc := cap } ch i0 i1 f0 f1 y W hW (hc W hb) ⟨hx.lo, hx.hi, hx.tick, hx.fault, hx.pl, hx.pw, hx.nl, hx.nd, hx.r0, hx.r1⟩ (hp W hb) hk hy s0 s1
 clear R ht kcl kn hc hp s0 s1
 go_enter Tryz.func37, Tryz.ntmps37
 go_wp2_with fail
 refine (KCL.out _ HT.out).mono ?_
 rintro e w1 ⟨v, rfl, hown, b1⟩
 replace c5 := Kit.cell_below b1 c5
 obtain ⟨g, cap, rfl, _, hglt⟩ := hown.form (by omega)
 have hgB : w.heap.size ≤ g := Kit.own_base hown g rfl
 have R1 := (HR.out.below b1).set 5 (.slice (some ⟨g, 0, none⟩) x.n cap) (by simp [cells])
 replace R1 : Kit.Row _ B (cells { x with na := some ⟨g, 0, none⟩, nc := cap } ch i0 i1 f0 f1) := R1.cast rfl
 have own1 := ownsRow_setCell_below hown (a := ⟨B, 5, none⟩) hlt (.slice (some ⟨g, 0, none⟩) x.n cap)
 have bb : Below base w (w1.setCell ⟨B, 5, none⟩ (.slice (some ⟨g, 0, none⟩) x.n cap)) := (b1.mono (by omega)).setCell hbB _
 replace u5 := (HR.out.below b1).free 5 (by simp [cells])
 have HR1 := Lib.hid R1
 have HB1 := Lib.hid bb
 have HO1 := Lib.hid own1
 have c5' := R1.at_ 5 (.slice (some ⟨g, 0, none⟩) x.n cap) rfl
 clear b1 hown R1 bb own1 HR HT KCL
 go_wp2_with fail
 have KONE := Lib.hid (kone g cap)
 clear kone
 go_loopw [2, 3, 20] (fun _ _ vi wr => ∃ k : Nat, k ≤ x.n ∧ vi = .int .i64 k ∧ Hid (wr.ownsRow w.heap.size 60 4 (.slice (some ⟨g, 0, none⟩) x.n cap) x.n (Cl.cells (mid x ch f0 f1 k))) ∧ Hid (Kit.Row wr B (cells { x with na := some ⟨g, 0, none⟩, nc := cap } ch i0 i1 f0 f1)) ∧ Hid (Below base w wr)) (fun _ _ vi _ => x.n - (intOf vi).toNat)
 case atStart => exact ⟨0, by omega, rfl, Lib.hid (by rw [mid_zero]; exact HO1.out), HR1, HB1⟩
 case round =>
  clear HO1 HR1 HB1 c5 c5' u5
  obtain ⟨k, hk, rfl, HO, HR, HB⟩ := hrel
  by_cases hlt2 : k < x.n
  ·have hy := HN.out k hlt2
   obtain ⟨y, hy, ry⟩ := hy
   obtain ⟨d0, d1, d2, d3⟩ := Cl.cells_get _ k y (mid_at x ch f0 f1 k y hy)
   have m0 := (HO.out.cellAt (k * 4) (by omega)).trans d0
   have m1 := (HO.out.cellAt (k * 4 + 1) (by omega)).trans d1
   have m2 := (HO.out.cellAt (k * 4 + 2) (by omega)).trans d2
   have m3 := (HO.out.cellAt (k * 4 + 3) (by omega)).trans d3
   have hgw := (HO.out.form (by omega))
   have hltB := HR.out.lt
   go_wp2_with fail
   have XA := Kit.Row.new wr #[.int .i64 y.id, .int .i64 y.md, .int .i64 y.ct, .int .i64 y.ps] 60
   have HR2 := Lib.hid (HR.out.alloc (.cells #[.int .i64 y.id, .int .i64 y.md, .int .i64 y.ct, .int .i64 y.ps] 60))
   have HO2 := Lib.hid (HO.out.alloc (.cells #[.int .i64 y.id, .int .i64 y.md, .int .i64 y.ct, .int .i64 y.ps] 60))
   have HB2 := Lib.hid (HB.out.alloc (by have := HB.out.size; omega) (.cells #[.int .i64 y.id, .int .i64 y.md, .int .i64 y.ct, .int .i64 y.ps] 60))
   generalize wr.alloc (.cells #[.int .i64 y.id, .int .i64 y.md, .int .i64 y.ct, .int .i64 y.ps] 60) = wv at *
   generalize wr.heap.size = N at *
   have c5 := HR2.out.at_ 5 (.slice (some ⟨g, 0, none⟩) x.n cap) rfl
   have x0 := XA.at_ 0 (.int .i64 y.id) rfl
   have x1 := XA.at_ 1 (.int .i64 y.md) rfl
   have x2 := XA.at_ 2 (.int .i64 y.ct) rfl
   have x3 := XA.at_ 3 (.int .i64 y.ps) rfl
   have hgl : g < wv.heap.size := by
    obtain ⟨g1, c1, e1, _, h1⟩ := HO2.out.form (by omega)
    injection e1 with e1 _ _
    injection e1 with e1
    injection e1 with e1
    omega
   clear m0 m1 m2 m3 HR HO HB XA hgw
   go_region_with (go_at_call 72; go_loud (refine (KONE.out k y hlt2 ry _ HR2.out.drew HB2.out.drew).mono ?_; rintro e wa ⟨rfl, ba⟩; replace c5 := Kit.cell_below ba c5; replace x0 := Kit.cell_below ba x0; replace x1 := Kit.cell_below ba x1; replace x2 := Kit.cell_below ba x2; replace x3 := Kit.cell_below ba x3; have HR3 := Lib.hid (HR2.out.drew.below ba); have HO3 := Lib.hid (Kit.own_below HO2.out.drew ba); have HB3 := Lib.hid (HB2.out.drew.trans (ba.mono (Nat.le_trans hbB (Nat.le_of_lt HR2.out.lt)))); clear ba; have t0 := HO3.out.frozenAt (k * 4 + 0); have n0 := HO3.out.cellAt (k * 4 + 0) (by omega); have t1 := HO3.out.frozenAt (k * 4 + 1); have n1 := HO3.out.cellAt (k * 4 + 1) (by omega); have t2 := HO3.out.frozenAt (k * 4 + 2); have n2 := HO3.out.cellAt (k * 4 + 2) (by omega); have t3 := HO3.out.frozenAt (k * 4 + 3); have n3 := HO3.out.cellAt (k * 4 + 3) (by omega); rw [Nat.add_zero] at t0 n0; replace n0 := n0.trans d0; replace n1 := n1.trans d1; replace n2 := n2.trans d2; replace n3 := n3.trans d3))
   all_goals
    have hbg : base ≤ g := by omega
    have HS := Lib.hid (set_own HO3.out (by rw [mid_len]; exact hx.nl) k hlt2 (one x ch f0 f1 k y)).1
    rw [← mid_succ x ch f0 f1 k y hy] at HS
    have HF := Lib.hid ((((HR3.out.far g (k * 4) (.int .i64 (one x ch f0 f1 k y).id) (by omega)).far g (k * 4 + 1) (.int .i64 (one x ch f0 f1 k y).md) (by omega)).far g (k * 4 + 2) (.int .i64 (one x ch f0 f1 k y).ct) (by omega)).far g (k * 4 + 3) (.int .i64 (one x ch f0 f1 k y).ps) (by omega))
    have HG := Lib.hid ((((HB3.out.setCell (p := ⟨g, k * 4, none⟩) hbg (.int .i64 (one x ch f0 f1 k y).id)).setCell (p := ⟨g, k * 4 + 1, none⟩) hbg (.int .i64 (one x ch f0 f1 k y).md)).setCell (p := ⟨g, k * 4 + 2, none⟩) hbg (.int .i64 (one x ch f0 f1 k y).ct)).setCell (p := ⟨g, k * 4 + 3, none⟩) hbg (.int .i64 (one x ch f0 f1 k y).ps))
    clear HO3 HR3 HB3 HO2 HR2 HB2
    go_wp2_with fail
    go_roundw
    case rel => exact ⟨k + 1, by omega, by go_num, HS, HF, HG⟩
    case measure => simp [intOf]; omega
  ·obtain rfl : k = x.n := by omega
   go_wp2_with fail
   refine Go.Great.bodyPost_end0 rfl rfl ⟨rfl, _, _, HR.out.cast rfl, ?_, HB.out⟩
   exact Kit.own_weaken HO.out (by omega)
end Tk
end Go.Proofs.YtgiojagdmglinaaGreatDoor
namespace Go.Proofs.YtgiojagdmglinaaGreatDoor
namespace Sw
def in0 (x : Wd) (ch : Ch) : List Fr := Port.take (Tk.sp x ch.b0 x.n) x.n
def in1 (x : Wd) (ch : Ch) : List Fr := Port.take (Tk.sp x ch.b1 x.n) x.n
def r0 (x : Wd) (ch : Ch) : Hb × Fr := Tk.rel0 x ch (in0 x ch) (in1 x ch)
def r1 (x : Wd) (ch : Ch) : Hb × Fr := Tk.rel1 x ch (in0 x ch) (in1 x ch)
def nds (x : Wd) (ch : Ch) : List Nd := Tk.lst x ch (r0 x ch).2 (r1 x ch).2
def nxt (x : Wd) (ch : Ch) : Wd := { x with tick := Wm.up x.tick Wm.mostCount, nodes := nds x ch, h0 := (r0 x ch).1, h1 := (r1 x ch).1 }
theorem hubs_right {x : Wd} (hx : x.Right) (ch : Ch) : (Wm.Right x.n (r0 x ch).1 ∧ Wm.Sent x.n (r0 x ch).2) ∧ (Wm.Right x.n (r1 x ch).1 ∧ Wm.Sent x.n (r1 x ch).2) := by
 have h3 := hx.lo
 have fa := Port.take_fit (Tk.sp x ch.b0 x.n) x.n
 have fb := Port.take_fit (Tk.sp x ch.b1 x.n) x.n
 have fit0 : ∀ d, Wm.Fit x.n (Link.l0 d (in0 x ch) (in1 x ch)) := by intro d; unfold Link.l0; split; exact Port.both_fit fa fb; exact fa
 have fit1 : ∀ d, Wm.Fit x.n (Link.l1 d (in0 x ch) (in1 x ch)) := by intro d; unfold Link.l1; split; exact Port.both_fit fa fb; exact fb
 have rh : ∀ d, Wm.Right x.n (Link.hs d x.h0 x.h1) := by intro d; unfold Link.hs; split; exact hx.r0; exact hx.r1
 exact ⟨Wm.hub_right (by omega) hx.hi (fit0 _) hx.r0, Wm.hub_right (by omega) hx.hi (fit1 _) (rh _)⟩
theorem nds_len {x : Wd} (ch : Ch) : (nds x ch).length = x.nodes.length := Tk.mid_len _ _ _ _ _
theorem nds_at {x : Wd} (hx : x.Right) (ch : Ch) (i : Nat) (hi : i < x.n) : ndAt (nds x ch) i = Tk.one x ch (r0 x ch).2 (r1 x ch).2 i (ndAt x.nodes i) := by
 have hl : i < x.nodes.length := by rw [hx.nl]; exact hi
 unfold ndAt nds Tk.lst Tk.mid
 rw [List.getD_eq_getElem?_getD, List.getElem?_mapIdx, List.getD_eq_getElem?_getD, List.getElem?_eq_getElem hl]
 simp [hi]
theorem one_right {x : Wd} (hx : x.Right) (ch : Ch) {f0 f1 : Fr} (s0 : Wm.Sent x.n f0) (s1 : Wm.Sent x.n f1) (i : Nat) {y : Nd} (hy : Wm.NRight x.n i y) : Wm.NRight x.n i (Tk.one x ch f0 f1 i y) := by
 have h3 := hx.lo
 unfold Tk.one
 split
 ·split
  ·exact Wm.wake_right (by omega) hy
  ·exact hy
 ·rename_i h
  exact Wm.act_right (by omega) hy h (Tk.heard_sent hx.hi _ _ _ _ _ s0) (Tk.heard_sent hx.hi _ _ _ _ _ s1)
theorem nxt_right {x : Wd} (hx : x.Right) (ch : Ch) : (nxt x ch).Right where
 lo := hx.lo
 hi := hx.hi
 tick := Wm.up_in (by unfold Wm.mostCount; omega)
 fault := hx.fault
 pl := hx.pl
 pw := hx.pw
 nl := by show (nds x ch).length = x.n; rw [nds_len, hx.nl]
 nd := fun i hi => by
  show Wm.NRight x.n i (ndAt (nds x ch) i)
  rw [nds_at hx ch i hi]
  exact one_right hx ch (hubs_right hx ch).1.2 (hubs_right hx ch).2.2 i (hx.nd i hi)
 r0 := (hubs_right hx ch).1.1
 r1 := (hubs_right hx ch).2.1
end Sw
end Go.Proofs.YtgiojagdmglinaaGreatDoor
