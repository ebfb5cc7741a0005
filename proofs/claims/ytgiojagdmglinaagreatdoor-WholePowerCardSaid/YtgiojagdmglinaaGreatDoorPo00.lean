/-
  WholePower holds: of correct nodes of which no two are powered none begins, and a node without power stays as it was.
  Conditions: none but those which the given statement itself asks (its tied card); the lemmas stand in the texts ahead of this one.
-/
import Derived.Test.YtgiojagdmglinaaGreatDoorRows
import Derived.WalkKit
import Derived.ProofKit
import Derived.Test.YtgiojagdmglinaaGreatDoorGb34
import Derived.Test.YtgiojagdmglinaaGreatDoorGb35
import Derived.Test.YtgiojagdmglinaaGreatDoorGb36
import Derived.Test.YtgiojagdmglinaaGreatDoorCards
import Derived.Test.YtgiojagdmglinaaGreatDoorTie
import Derived.OpenShut
import Derived.LaidMore
import Derived.Stop.Joined
import Derived.SevenTiedAt
import Derived.ShutString
set_option linter.unusedVariables false
set_option linter.unusedSimpArgs false
set_option maxRecDepth 100000
namespace Go.Proofs.YtgiojagdmglinaaGreatDoor.WholePower
theorem own : ownKnob Tryz.prog.godebug = none := by kernel_rfl
theorem laidOut : laidOutB Tryz.prog = true := by kernel_rfl
theorem named : Tryz.pinned.checked.prog.funcNamed Rows.wholePowerRow.func = some 5 := by kernel_rfl
theorem facts : joinedFacts Tryz.pinned.checked.prog 5 Tryz.f5 Rows.wholePowerSpec Rows.wholePowerRow = true := by kernel_rfl
end Go.Proofs.YtgiojagdmglinaaGreatDoor.WholePower
namespace Go.Proofs.YtgiojagdmglinaaGreatDoor
open Go Go.RowKit
namespace Tw
set_option maxHeartbeats 400000 in
theorem on_calls (A : Option Addr) (n cap : Nat) (P : List Int) (i : Nat) (t : Int) (w : World) (hp : Whole w A n P) (hn : n ≤ 1000) (hi : i < n) :
  Calls Tryz.prog 44 #[.slice A n cap, .int .i64 i, .int .i64 t] w fun e w' => e = .returned (.bool (decide (P.getD i 0 ≤ t))) ∧ w = w' := by
 obtain ⟨b, off, rfl, hb, m0⟩ := hp.at_ hi
 generalize P.getD i 0 = x at *
 have g0 : decide ((i : Int) ≥ 0) = true := decide_eq_true (by omega)
 have g1 : decide ((i : Int) < (n : Int)) = true := decide_eq_true (by omega)
 clear hp
 cases g2 : decide (x ≤ t) with
 | false =>
  go_enter Tryz.func44, Tryz.ntmps44
  go_wp2_with fail
  go_ret
  exact ⟨rfl, rfl⟩
 | true =>
  go_enter Tryz.func44, Tryz.ntmps44
  go_wp2_with fail
  go_ret
  exact ⟨rfl, rfl⟩
def one (c v : Int) (P : List Int) (t : Nat) (i : Nat) : Bool := decide (P.getD i 0 ≤ t) && !(c == 1 && v == (i : Int))
def cnt (c v : Int) (P : List Int) (t k : Nat) : Nat := ((List.range k).filter (one c v P t)).length
theorem cnt_succ (c v : Int) (P : List Int) (t k : Nat) : cnt c v P t (k + 1) = cnt c v P t k + if one c v P t k = true then 1 else 0 := by
 unfold cnt
 rw [List.range_succ, List.filter_append, List.length_append]
 congr 1
 by_cases h : one c v P t k = true
 ·rw [if_pos h, List.filter_cons_of_pos (p := one c v P t) h]; rfl
 ·rw [if_neg h, List.filter_cons_of_neg (p := one c v P t) h]; rfl
theorem cnt_le (c v : Int) (P : List Int) (t k : Nat) : cnt c v P t k ≤ k := by
 have := List.length_filter_le (one c v P t) (List.range k)
 simpa [cnt] using this
set_option maxHeartbeats 1000000 in
theorem two_calls (A : Option Addr) (n cap : Nat) (P : List Int) (c v : Int) (w : World) (hp : Whole w A n P) (hn : n ≤ 1000) :
  Calls Tryz.prog 18 #[.slice A n cap, .agg #[.int .i64 c, .int .i64 v]] w fun e w' => (∃ r : Int, e = .returned (.int .i64 r) ∧ ∀ t : Nat, (t : Int) < r → cnt c v P t n < 2) ∧ Below w.heap.size w w' := by
 have HP := Lib.hid hp
 clear hp
 go_enter Tryz.func18, Tryz.ntmps18
 go_wp2_with fail
 go_loopw [5, 6, 7] (fun vt _ _ wr => ∃ t : Nat, t ≤ 2001 ∧ vt = .int .i64 t ∧ wr.cell? ⟨w.heap.size, 0, none⟩ = some (.int .i64 c) ∧ wr.cell? ⟨w.heap.size, 1, none⟩ = some (.int .i64 v) ∧ Hid (Below w.heap.size w wr) ∧ Hid (∀ q : Nat, q < t → cnt c v P q n < 2)) (fun vt _ _ _ => 2001 - (intOf vt).toNat)
 case atStart => exact ⟨0, by omega, rfl, by go_simp, by go_simp, Lib.hid (Kit.alloc1 ..), Lib.hid (fun q h => absurd h (by omega))⟩
 case round =>
  obtain ⟨t, ht, rfl, c0, c1, HB, HC⟩ := hrel
  by_cases hlt : t ≤ 2000
  ·have gt : decide ((t : Int) ≤ 2000) = true := decide_eq_true (by omega)
   go_wp2_with fail
   go_loopw [6, 7] (fun vk vi wq => ∃ k : Nat, k ≤ n ∧ vi = .int .i64 k ∧ vk = .int .i64 (cnt c v P t k : Nat) ∧ wq.cell? ⟨w.heap.size, 0, none⟩ = some (.int .i64 c) ∧ wq.cell? ⟨w.heap.size, 1, none⟩ = some (.int .i64 v) ∧ Hid (Below w.heap.size w wq)) (fun _ vi _ => n - (intOf vi).toNat)
   case atStart => exact ⟨0, by omega, rfl, rfl, c0, c1, HB⟩
   case round =>
    obtain ⟨k, hk, rfl, rfl, c0, c1, HB⟩ := hrel
    by_cases hkt : k < n
    ·have gk : decide ((k : Int) < (n : Int)) = true := decide_eq_true (by omega)
     have hs := cnt_succ c v P t k
     have hle := cnt_le c v P t k
     have ko := on_calls A n cap P k t _ (HP.out.below HB.out) hn hkt
     have hone : one c v P t k = (decide (P.getD k 0 ≤ (t : Int)) && !(c == 1 && v == (k : Int))) := rfl
     rw [hone] at hs
     have hm1 := hs
     generalize decide (P.getD k 0 ≤ (t : Int)) = b1 at *
     have HS := Lib.hid hs
     clear hs hone hm1
     generalize cnt c v P t k = m0 at *
     cases b1 with
     | false =>
      have h1 : cnt c v P t (k + 1) = m0 := by rw [HS.out]; simp
      have H1 := Lib.hid h1
      clear h1 HS
      go_wp2_with fail
      refine ko.mono ?_
      rintro e w1 ⟨rfl, rfl⟩
      go_wp2_with fail
      go_roundw
      case rel => exact ⟨k + 1, by omega, by go_num, by rw [H1.out], c0, c1, HB⟩
      case measure => simp [intOf]; omega
     | true =>
      go_wp2_with fail
      refine ko.mono ?_
      rintro e w1 ⟨rfl, rfl⟩
      have kn := Vw.rnode_calls c v (k : Int) wr
      cases hb2 : (c == 1 && v == (k : Int)) with
      | false =>
       rw [hb2] at kn HS
       have h1 : cnt c v P t (k + 1) = m0 + 1 := by rw [HS.out]; simp
       have H1 := Lib.hid h1
       clear h1 HS hb2
       go_wp2_with fail
       refine kn.mono ?_
       rintro e w2 ⟨rfl, b2⟩
       have y0 := Kit.cell_below b2 c0
       have y1 := Kit.cell_below b2 c1
       have HB2 := Lib.hid (HB.out.trans (b2.mono HB.out.size))
       clear b2
       go_wp2_with fail
       go_roundw
       case rel => exact ⟨k + 1, by omega, by go_num, by rw [H1.out]; go_num, y0, y1, HB2⟩
       case measure => simp [intOf]; omega
      | true =>
       rw [hb2] at kn HS
       have h1 : cnt c v P t (k + 1) = m0 := by rw [HS.out]; simp
       have H1 := Lib.hid h1
       clear h1 HS hb2
       go_wp2_with fail
       refine kn.mono ?_
       rintro e w2 ⟨rfl, b2⟩
       have y0 := Kit.cell_below b2 c0
       have y1 := Kit.cell_below b2 c1
       have HB2 := Lib.hid (HB.out.trans (b2.mono HB.out.size))
       clear b2
       go_wp2_with fail
       go_roundw
       case rel => exact ⟨k + 1, by omega, by go_num, by rw [H1.out], y0, y1, HB2⟩
       case measure => simp [intOf]; omega
    ·obtain rfl : k = n := by omega
     have gk : decide ((k : Int) < (k : Int)) = false := by simp
     by_cases h2 : 2 ≤ cnt c v P t k
     ·have g2 : decide (((cnt c v P t k : Nat) : Int) ≥ 2) = true := decide_eq_true (by omega)
      go_wp2_with fail
      go_ret
      exact ⟨⟨_, rfl, fun q hq => HC.out q (by omega)⟩, HB.out⟩
     ·have g2 : decide (((cnt c v P t k : Nat) : Int) ≥ 2) = false := decide_eq_false (by omega)
      have HC2 : Hid (∀ q : Nat, q < t + 1 → cnt c v P q k < 2) := Lib.hid (fun q hq => by
       by_cases e : q = t
       ·subst e; omega
       ·exact HC.out q (by omega))
      clear h2 HC
      go_wp2_with fail
      go_roundw
      case rel => exact ⟨t + 1, by omega, by go_num, c0, c1, HB, HC2⟩
      case measure => simp [intOf]; omega
  ·have gt : decide ((t : Int) ≤ 2000) = false := decide_eq_false (by omega)
   go_wp2_with fail
   go_ret
   exact ⟨⟨-1, rfl, fun q hq => absurd hq (by omega)⟩, HB.out⟩
end Tw
end Go.Proofs.YtgiojagdmglinaaGreatDoor
namespace Go.Proofs.YtgiojagdmglinaaGreatDoor
namespace Ru
open Sw
theorem hub_frame (n : Nat) (h : Hb) (l : List Fr) : (Wm.hub n h l).2 = Fr.none ∨ ∃ p, (Wm.hub n h l).2 = frAt l p := by
 unfold Wm.hub Wm.relay
 split
 ·split
  ·exact Or.inr ⟨_, rfl⟩
  ·exact Or.inl rfl
 ·split
  ·exact Or.inl rfl
  ·split
   ·exact Or.inl rfl
   ·exact Or.inr ⟨_, rfl⟩
theorem off_at {x : Wd} (hx : x.Right) (l : List Ch) (hh : x.h1 = x.h0) (ht : x.tick = 0) (ho : ∀ i, i < x.n → ndAt x.nodes i = Nw.off i) (i : Nat) (hi : i < x.n) : ∀ k : Nat, k ≤ 1000 → (k : Int) ≤ x.power.getD i 0 → ndAt (wat x l k).nodes i = Nw.off i
 | 0, _, _ => ho i hi
 | k + 1, hk, hp => by
  have ih := off_at hx l hh ht ho i hi k (by omega) (by omega)
  have hn : ndAt (wat x l (k + 1)).nodes i = _ := nodes_one (wat_right hx l k) (l.getD k default) (wat_r1 hx l hh k) i (by rw [wat_n]; exact hi)
  rw [hn, ih, wat_power, wat_tick x l ht k (by omega)]
  unfold node1
  rw [if_pos (show (Nw.off i).md = 0 from rfl), if_neg (by omega)]
theorem lone_at {x : Wd} (hx : x.Right) (l : List Ch) (hh : x.h1 = x.h0) (ht : x.tick = 0) (ho : ∀ i, i < x.n → ndAt x.nodes i = Nw.off i) (hA : Wm.InvA x.n (F x.c x.v) x.h0 x.nodes) (hc : x.c ≠ 1) (T : Int)
  (h2 : ∀ t : Nat, (t : Int) < T → ∀ i j, i < x.n → j < x.n → i ≠ j → x.power.getD i 0 ≤ t → x.power.getD j 0 ≤ t → False) : ∀ k : Nat, k ≤ 1000 → (k : Int) ≤ T → Wm.InvA x.n (F x.c x.v) (wat x l k).h0 (wat x l k).nodes
 | 0, _, _ => hA
 | k + 1, hk, hT => by
  have ih := lone_at hx l hh ht ho hA hc T h2 k (by omega) (by omega)
  have hF : ∀ i, F x.c x.v i = false := fun i => by unfold F Vw.fnode; simp [hc]
  have B := base_at hx l k
  obtain ⟨p, hp, e0, _, hO⟩ := tick_at hx l hh k
  have hs := Wm.stepA B hp ih hO
  rw [← e0] at hs
  rcases hs with hs | ⟨j, s, e, hB⟩
  ·exact hs
  ·exfalso
   have hj := hB.jn
   have hj3 := hB.ja
   have awake : ∀ i, i < x.n → (ndAt (wat x l k).nodes i).md ≠ 0 → x.power.getD i 0 ≤ k := fun i hi h0 => Classical.byContradiction fun hn => by
    rw [off_at hx l hh ht ho i hi k (by omega) (by omega)] at h0
    exact h0 rfl
   obtain ⟨o1, o2⟩ := hO j hj (hF j)
   have hA3 := (ih j hj (hF j)).1
   have hm := (B.nodes j hj).md
   by_cases h0 : (ndAt (wat x l k).nodes j).md = 0
   ·have := o1 h0
    omega
   ·have hj2 := o2 h0
    rcases hub_frame x.n (wat x l k).h0 p with ef | ⟨q, ef⟩
    ·rw [ef] at hj2
     have := Wm.act_rest x.n (ndAt (wat x l k).nodes j) (by omega)
     rw [← hj2] at this
     omega
    ·rw [ef] at hj2
     by_cases hq : q < x.n
     ·rw [hp.own q hq (hF q)] at hj2
      have hq3 := (ih q hq (hF q)).1
      have hqm := (B.nodes q hq).md
      unfold Wm.say at hj2
      rw [if_neg (fun h => hq3 h.1)] at hj2
      split at hj2
      ·rename_i hcs
       have hq0 : (ndAt (wat x l k).nodes q).md ≠ 0 := by
        unfold Wm.cs at hcs
        simp only [Bool.and_eq_true, Bool.or_eq_true, beq_iff_eq] at hcs
        omega
       rw [(B.nodes q hq).id] at hj2
       rcases Wm.act_cs x.n (ndAt (wat x l k).nodes j) q (by omega) with h1 | ⟨h1, _⟩
       ·rw [← hj2] at h1
        omega
       ·rw [(B.nodes j hj).id] at h1
        exact h2 k (by omega) j q hj hq (by omega) (awake j hj h0) (awake q hq hq0)
      ·have := Wm.act_rest x.n (ndAt (wat x l k).nodes j) (by omega)
       rw [← hj2] at this
       omega
     ·rw [Wm.frAt_out hp.len (by omega)] at hj2
      have := Wm.act_rest x.n (ndAt (wat x l k).nodes j) (by omega)
      rw [← hj2] at this
      omega
theorem none_act {n : Nat} {c v : Int} {h : Hb} {xs : List Nd} (hl : xs.length = n) (hA : Wm.InvA n (F c v) h xs) : Vw.active c v xs = [] := by
 cases he : Vw.active c v xs with
 | nil => rfl
 | cons p r =>
  obtain ⟨h1, h2, h3⟩ := mem_act (c := c) (v := v) (xs := xs) (i := p) (by rw [he]; simp)
  exact absurd h3 (hA p (by omega) h2).1
theorem start_off (n : Nat) (s : Sc) (p G : Nat) (i : Nat) (hi : i < n) : ndAt (Sw.start n s p G).nodes i = Nw.off i := by
 show ndAt ((List.range n).map Nw.off) i = Nw.off i
 unfold ndAt
 simp [hi]
end Ru
end Go.Proofs.YtgiojagdmglinaaGreatDoor
namespace Go.Proofs.YtgiojagdmglinaaGreatDoor
open Go Go.RowKit
theorem Lies.drew' {w : World} {A : Option Addr} {n k : Nat} {cs : List (List Value)} (h : Lies w A n k cs) : Lies w.drew A n k cs := ⟨h.len, h.at_⟩
theorem Nodes.drew' {w : World} {A : Option Addr} {n : Nat} {l : List Nd} (h : Nodes w A n l) : Nodes w.drew A n l := Lies.drew' h
namespace Ap
theorem act_len (c v : Int) (A : Option Addr) (n cap : Nat) (l : List Nd) (w : World) (hl : Nodes w A n l) (hn : n ≤ 1000000) :
  Calls Tryz.prog 19 #[.agg #[.int .i64 c, .int .i64 v], .slice A n cap] w fun e w' => ∃ A1 c1, e = .returned (.slice A1 (Vw.active c v l).length c1) ∧ Below w.heap.size w w' := by
 refine (Vw.ractive_calls c v A n cap l w hl hn).mono ?_
 rintro e w' ⟨v1, rfl, hown, hb⟩
 generalize (Vw.active c v l).length = L at *
 rcases hown.2 with ⟨h1, h2⟩ | ⟨g, cp, cur, h1, _⟩
 ·subst h1
  subst h2
  exact ⟨none, 0, rfl, hb⟩
 ·subst h1
  exact ⟨_, _, rfl, hb⟩
theorem two_no {n : Nat} {c v : Int} {P : List Int} {t : Nat} (hc : c ≠ 1) (h : Tw.cnt c v P t n < 2) (i j : Nat) (hi : i < n) (hj : j < n) (hne : i ≠ j) (pi : P.getD i 0 ≤ t) (pj : P.getD j 0 ≤ t) : False := by
 have o : ∀ k, P.getD k 0 ≤ t → Tw.one c v P t k = true := fun k hk => by
  unfold Tw.one
  rw [decide_eq_true hk]
  simp [hc]
 have := Wm.two_in hi hj hne (o i pi) (o j pj)
 unfold Tw.cnt at h
 omega
theorem none_on (n : Nat) (s : Sc) (p G : Nat) (h3 : 3 ≤ n) (h8 : n ≤ 8) {y : Wd} (yc : y.c = (Sw.start n s p G).c) (yv : y.v = (Sw.start n s p G).v) (yp : y.power = (Sw.start n s p G).power) {m : Nat} {r : Int} (hm : m ≤ 300) (hr : ∀ t : Nat, (t : Int) < r → Tw.cnt y.c y.v y.power t n < 2) :
  ∀ k, k < m → y.c ≠ 1 → (k : Int) < r → (Vw.active y.c y.v (Sw.wat (Sw.start n s p G) s.ticks (k + 1)).nodes).length = 0 := by
 intro k hk hc hkr
 have hx := Sw.start_right n s p G h3 h8
 have h := Ru.lone_at hx s.ticks rfl rfl (fun i hi => Ru.start_off n s p G i hi) (Ru.start_inv n s p G h8) (by rw [← yc]; exact hc) r (fun t ht i j hi hj hne pi pj => two_no hc (hr t ht) i j hi hj hne (by rw [yp]; exact pi) (by rw [yp]; exact pj)) (k + 1) (by omega) (by omega)
 rw [yc, yv, Ru.none_act (by rw [(Sw.wat_right hx s.ticks (k + 1)).nl, Sw.wat_n]) h]
 rfl
theorem still_off (n : Nat) (s : Sc) (p G : Nat) (h3 : 3 ≤ n) (h8 : n ≤ 8) {y : Wd} (yp : y.power = (Sw.start n s p G).power) {m : Nat} (hm : m ≤ 300) :
  ∀ k i, k < m → i < n → (k : Int) < y.power.getD i 0 → ndAt (Sw.wat (Sw.start n s p G) s.ticks (k + 1)).nodes i = ⟨i, 0, 0, 0⟩ := by
 intro k i hk hi hp
 rw [yp] at hp
 exact Ru.off_at (Sw.start_right n s p G h3 h8) s.ticks rfl rfl (fun i hi => Ru.start_off n s p G i hi) i hi (k + 1) (by omega) (by omega)
end Ap
end Go.Proofs.YtgiojagdmglinaaGreatDoor
namespace Go.Proofs.YtgiojagdmglinaaGreatDoor.WholePower
open Go Go.RowKit
set_option maxHeartbeats 4000000 in
theorem walk1 (s : Sc) (w : World) (hS : Op.ScThere w s) :
  Calls Tryz.prog 5 #[.agg s.cells.toArray] w fun e w' => e = .returned (.bool true) ∧ Below w.heap.size w w' := by
 have HS := Lib.hid hS
 clear hS
 show Calls Tryz.prog 5 #[.agg #[.int .i64 s.n, .slice s.pa s.pn s.pc, .int .i64 s.c, .int .i64 s.v, .bool s.ld, .slice s.na s.nn s.nc, .int .i64 (s.h0.ag 0), .int .i64 (s.h0.ag 1), .int .i64 (s.h0.ag 2), .int .i64 (s.h0.ag 3), .int .i64 (s.h0.ag 4), .int .i64 (s.h0.ag 5), .int .i64 (s.h0.ag 6), .int .i64 (s.h0.ag 7), .int .i64 s.h0.port, .int .i64 s.h0.age, .int .i64 s.h0.hold, .int .i64 s.h0.pos, .int .i64 (s.h1.ag 0), .int .i64 (s.h1.ag 1), .int .i64 (s.h1.ag 2), .int .i64 (s.h1.ag 3), .int .i64 (s.h1.ag 4), .int .i64 (s.h1.ag 5), .int .i64 (s.h1.ag 6), .int .i64 (s.h1.ag 7), .int .i64 s.h1.port, .int .i64 s.h1.age, .int .i64 s.h1.hold, .int .i64 s.h1.pos, .slice s.ta s.tn s.tc]] w _
 go_enter Tryz.func5, Tryz.ntmps5
 go_upto_region 1 with fail
 have R1 := Lib.hid (Kit.Row.newAt w #[.int .i64 s.n, .slice s.pa s.pn s.pc, .int .i64 s.c, .int .i64 s.v, .bool s.ld, .slice s.na s.nn s.nc, .int .i64 (s.h0.ag 0), .int .i64 (s.h0.ag 1), .int .i64 (s.h0.ag 2), .int .i64 (s.h0.ag 3), .int .i64 (s.h0.ag 4), .int .i64 (s.h0.ag 5), .int .i64 (s.h0.ag 6), .int .i64 (s.h0.ag 7), .int .i64 s.h0.port, .int .i64 s.h0.age, .int .i64 s.h0.hold, .int .i64 s.h0.pos, .int .i64 (s.h1.ag 0), .int .i64 (s.h1.ag 1), .int .i64 (s.h1.ag 2), .int .i64 (s.h1.ag 3), .int .i64 (s.h1.ag 4), .int .i64 (s.h1.ag 5), .int .i64 (s.h1.ag 6), .int .i64 (s.h1.ag 7), .int .i64 s.h1.port, .int .i64 s.h1.age, .int .i64 s.h1.hold, .int .i64 s.h1.pos, .slice s.ta s.tn s.tc] 32 w.heap.size rfl)
 have B1 := Lib.hid ((Below.refl w.heap.size w).alloc (Nat.le_refl _) (.cells #[.int .i64 s.n, .slice s.pa s.pn s.pc, .int .i64 s.c, .int .i64 s.v, .bool s.ld, .slice s.na s.nn s.nc, .int .i64 (s.h0.ag 0), .int .i64 (s.h0.ag 1), .int .i64 (s.h0.ag 2), .int .i64 (s.h0.ag 3), .int .i64 (s.h0.ag 4), .int .i64 (s.h0.ag 5), .int .i64 (s.h0.ag 6), .int .i64 (s.h0.ag 7), .int .i64 s.h0.port, .int .i64 s.h0.age, .int .i64 s.h0.hold, .int .i64 s.h0.pos, .int .i64 (s.h1.ag 0), .int .i64 (s.h1.ag 1), .int .i64 (s.h1.ag 2), .int .i64 (s.h1.ag 3), .int .i64 (s.h1.ag 4), .int .i64 (s.h1.ag 5), .int .i64 (s.h1.ag 6), .int .i64 (s.h1.ag 7), .int .i64 s.h1.port, .int .i64 s.h1.age, .int .i64 s.h1.hold, .int .i64 s.h1.pos, .slice s.ta s.tn s.tc] 32))
 generalize w.alloc (.cells #[.int .i64 s.n, .slice s.pa s.pn s.pc, .int .i64 s.c, .int .i64 s.v, .bool s.ld, .slice s.na s.nn s.nc, .int .i64 (s.h0.ag 0), .int .i64 (s.h0.ag 1), .int .i64 (s.h0.ag 2), .int .i64 (s.h0.ag 3), .int .i64 (s.h0.ag 4), .int .i64 (s.h0.ag 5), .int .i64 (s.h0.ag 6), .int .i64 (s.h0.ag 7), .int .i64 s.h0.port, .int .i64 s.h0.age, .int .i64 s.h0.hold, .int .i64 s.h0.pos, .int .i64 (s.h1.ag 0), .int .i64 (s.h1.ag 1), .int .i64 (s.h1.ag 2), .int .i64 (s.h1.ag 3), .int .i64 (s.h1.ag 4), .int .i64 (s.h1.ag 5), .int .i64 (s.h1.ag 6), .int .i64 (s.h1.ag 7), .int .i64 s.h1.port, .int .i64 s.h1.age, .int .i64 s.h1.hold, .int .i64 s.h1.pos, .slice s.ta s.tn s.tc] 32) = w2 at *
 go_step
 refine Kit.wpList_load_row rfl 32 (.tmp 1) rfl w.heap.size 0 rfl R1.out [.int .i64 s.n, .slice s.pa s.pn s.pc, .int .i64 s.c, .int .i64 s.v, .bool s.ld, .slice s.na s.nn s.nc, .int .i64 (s.h0.ag 0), .int .i64 (s.h0.ag 1), .int .i64 (s.h0.ag 2), .int .i64 (s.h0.ag 3), .int .i64 (s.h0.ag 4), .int .i64 (s.h0.ag 5), .int .i64 (s.h0.ag 6), .int .i64 (s.h0.ag 7), .int .i64 s.h0.port, .int .i64 s.h0.age, .int .i64 s.h0.hold, .int .i64 s.h0.pos, .int .i64 (s.h1.ag 0), .int .i64 (s.h1.ag 1), .int .i64 (s.h1.ag 2), .int .i64 (s.h1.ag 3), .int .i64 (s.h1.ag 4), .int .i64 (s.h1.ag 5), .int .i64 (s.h1.ag 6), .int .i64 (s.h1.ag 7), .int .i64 s.h1.port, .int .i64 s.h1.age, .int .i64 s.h1.hold, .int .i64 s.h1.pos, .slice s.ta s.tn s.tc] rfl _ Tryz.underlying32 rfl Nw.sizeScript ?_
 go_wp2_with fail
 refine (Sm.may_calls s 300 w2 (HS.out.ticks.below B1.out) (by omega)).mono ?_
 rintro e w3 ⟨⟨b, rfl, hb⟩, b3⟩
 have RS := Lib.hid (R1.out.below b3)
 have HB := Lib.hid (B1.out.trans (b3.mono B1.out.size))
 clear b3 R1 B1
 cases b with
 | false =>
  clear hb RS
  go_wp2_with fail
  refine (Aw.awake_calls _).mono ?_
  rintro e wz ⟨rfl, bz⟩
  have HBZ := Lib.hid (HB.out.trans (bz.mono HB.out.size))
  clear bz
  go_wp2_with fail
  go_ret
  exact ⟨rfl, HBZ.out⟩
 | true =>
  obtain ⟨h3', h8', hld, htn⟩ := hb rfl
  obtain ⟨n, hn⟩ : ∃ n : Nat, s.n = n := ⟨s.n.toNat, by omega⟩
  have h3 : 3 ≤ n := by omega
  have h8 : n ≤ 8 := by omega
  clear hb h3' h8'
  have HNN := Lib.hid hn
  have HLD := Lib.hid hld
  clear hn hld
  go_upto_region 3 with fail
  go_step
  refine Kit.wpList_load_row rfl 32 (.tmp 1) rfl w.heap.size 0 rfl RS.out [.int .i64 s.n, .slice s.pa s.pn s.pc, .int .i64 s.c, .int .i64 s.v, .bool s.ld, .slice s.na s.nn s.nc, .int .i64 (s.h0.ag 0), .int .i64 (s.h0.ag 1), .int .i64 (s.h0.ag 2), .int .i64 (s.h0.ag 3), .int .i64 (s.h0.ag 4), .int .i64 (s.h0.ag 5), .int .i64 (s.h0.ag 6), .int .i64 (s.h0.ag 7), .int .i64 s.h0.port, .int .i64 s.h0.age, .int .i64 s.h0.hold, .int .i64 s.h0.pos, .int .i64 (s.h1.ag 0), .int .i64 (s.h1.ag 1), .int .i64 (s.h1.ag 2), .int .i64 (s.h1.ag 3), .int .i64 (s.h1.ag 4), .int .i64 (s.h1.ag 5), .int .i64 (s.h1.ag 6), .int .i64 (s.h1.ag 7), .int .i64 s.h1.port, .int .i64 s.h1.age, .int .i64 s.h1.hold, .int .i64 s.h1.pos, .slice s.ta s.tn s.tc] rfl _ Tryz.underlying32 rfl Nw.sizeScript ?_
  go_wp2_with fail
  refine (Al.all_calls n s w3 h3 h8 HNN.out HLD.out (HS.out.power.below HB.out) (HS.out.ticks.below HB.out) (by omega)).mono ?_
  rintro e w4 ⟨y, p, G, A, cap, ads, rfl, hlen, hy, hlk, hty, hb⟩
  have HB4 := Lib.hid (HB.out.trans (hb.mono HB.out.size))
  have LK := Lib.hid hlk
  have HTY := Lib.hid hty
  have HY := Lib.hid hy
  have RS4 := Lib.hid (RS.out.below hb)
  clear hb hlk hty hy RS HB
  dsimp only
  iterate 19 (first | go_guarded | go_step | go_upon | go_back)
  refine Kit.wpList_store_row rfl 36 (.tmp 4) (.tmp 18) rfl w4.heap.size 0 #[.int .i64 y.n, .int .i64 y.tick, .int .i64 y.c, .int .i64 y.v, .slice y.pa y.n y.pc, .slice y.na y.n y.nc, .int .i64 (y.h0.ag 0), .int .i64 (y.h0.ag 1), .int .i64 (y.h0.ag 2), .int .i64 (y.h0.ag 3), .int .i64 (y.h0.ag 4), .int .i64 (y.h0.ag 5), .int .i64 (y.h0.ag 6), .int .i64 (y.h0.ag 7), .int .i64 y.h0.port, .int .i64 y.h0.age, .int .i64 y.h0.hold, .int .i64 y.h0.pos, .int .i64 (y.h1.ag 0), .int .i64 (y.h1.ag 1), .int .i64 (y.h1.ag 2), .int .i64 (y.h1.ag 3), .int .i64 (y.h1.ag 4), .int .i64 (y.h1.ag 5), .int .i64 (y.h1.ag 6), .int .i64 (y.h1.ag 7), .int .i64 y.h1.port, .int .i64 y.h1.age, .int .i64 y.h1.hold, .int .i64 y.h1.pos] rfl rfl (Kit.Row.newAt w4 _ _ _ rfl) (by simp) Sw.sizeWorld (by first | rfl | (simp [Value.oneCell']; done) | decide) ?_
  intro w5 hW5
  have RY := Lib.hid (Kit.Row.all (Kit.Row.newAt w4 #[.int .i64 0, .int .i64 0, .int .i64 0, .int .i64 0, .slice none 0 0, .slice none 0 0, .int .i64 0, .int .i64 0, .int .i64 0, .int .i64 0, .int .i64 0, .int .i64 0, .int .i64 0, .int .i64 0, .int .i64 0, .int .i64 0, .int .i64 0, .int .i64 0, .int .i64 0, .int .i64 0, .int .i64 0, .int .i64 0, .int .i64 0, .int .i64 0, .int .i64 0, .int .i64 0, .int .i64 0, .int .i64 0, .int .i64 0, .int .i64 0] 36 _ rfl) hW5 rfl)
  have bb5 := Kit.below_of ((Below.refl w4.heap.size w4).alloc (Nat.le_refl _) (.cells #[.int .i64 0, .int .i64 0, .int .i64 0, .int .i64 0, .slice none 0 0, .slice none 0 0, .int .i64 0, .int .i64 0, .int .i64 0, .int .i64 0, .int .i64 0, .int .i64 0, .int .i64 0, .int .i64 0, .int .i64 0, .int .i64 0, .int .i64 0, .int .i64 0, .int .i64 0, .int .i64 0, .int .i64 0, .int .i64 0, .int .i64 0, .int .i64 0, .int .i64 0, .int .i64 0, .int .i64 0, .int .i64 0, .int .i64 0, .int .i64 0] 36)) hW5 (Nat.le_refl _)
  have L5 := Lib.hid (LK.out.below bb5)
  have TY5 := Lib.hid (HTY.out.below bb5)
  have HB5 := Lib.hid (HB4.out.trans (bb5.mono HB4.out.size))
  have RS5 := Lib.hid (RS4.out.below bb5)
  clear hW5 bb5 LK HTY HB4 RS4
  generalize w4.heap.size = Y at *
  have c2 := RY.out.at_ 2 (.int .i64 y.c) rfl
  have c3 := RY.out.at_ 3 (.int .i64 y.v) rfl
  have c4 := RY.out.at_ 4 (.slice y.pa y.n y.pc) rfl
  go_wp2_with fail
  refine (Tw.two_calls y.pa y.n y.pc y.power y.c y.v w5 TY5.out.power (by rw [HY.out.1]; omega)).mono ?_
  rintro e w6 ⟨⟨r, rfl, hr⟩, b6⟩
  have hr2 : ∀ t : Nat, (t : Int) < r → Tw.cnt y.c y.v y.power t n < 2 := by have e := HY.out.1; rw [e] at hr; exact hr
  have HP1 := Lib.hid (Ap.none_on n s p G h3 h8 HY.out.2.1 HY.out.2.2.1 HY.out.2.2.2.1 htn hr2)
  have HP2 := Lib.hid (Ap.still_off n s p G h3 h8 HY.out.2.2.2.1 htn)
  have L6 := Lib.hid (L5.out.below b6)
  have TY6 := Lib.hid (TY5.out.below b6)
  have RY6 := Lib.hid (RY.out.below b6)
  have RS6 := Lib.hid (RS5.out.below b6)
  have HB6 := Lib.hid (HB5.out.trans (b6.mono HB5.out.size))
  clear hr hr2 b6 L5 TY5 RY RS5 HB5 c2 c3 c4
  go_wp2_with fail
  go_loopw [7, 8, 9] (fun vt _ _ wr => ∃ k : Nat, k ≤ s.tn ∧ vt = .int .i64 k ∧ Hid (Below w6.heap.size w6 wr)) (fun vt _ _ _ => s.tn - (intOf vt).toNat)
  case atStart => exact ⟨0, by omega, rfl, Lib.hid (Below.refl _ _)⟩
  case round =>
   obtain ⟨k, hk, rfl, HB⟩ := hrel
   by_cases hlt : k < s.tn
   ·have gk : decide ((k : Int) < (s.tn : Int)) = true := decide_eq_true (by omega)
    obtain ⟨bA, oA, p1, rfl, hbA, _, _, _, _, _, m, na⟩ := Sw.lk_at L6.out hlen hlt
    change _ = some (Value.slice (some ⟨p1, 0, none⟩) n _) at m
    change Nodes _ _ n _ at na
    generalize (ads.getD k (0, 0)).2 = k1 at *
    have q1 := HP1.out k hlt
    have q2 := fun i => HP2.out k i hlt
    generalize (Sw.wat (Sw.start n s p G) s.ticks (k + 1)).nodes = xs at *
    have M5 := Lib.hid m
    have NA0 := Lib.hid na
    have m5 := (HB.out.cell (p := ⟨bA, oA + k * 6 + 5, none⟩) hbA).trans m
    have NA := Lib.hid (na.below HB.out)
    have Q1 := Lib.hid q1
    have Q2 := Lib.hid q2
    clear na q1 q2 m
    have c2 := (RY6.out.below HB.out).at_ 2 (.int .i64 y.c) rfl
    have c3 := (RY6.out.below HB.out).at_ 3 (.int .i64 y.v) rfl
    go_wp2_with fail
    refine wp_region_held_drew (S := (fun w' => w'.cell? ⟨Y, 2, none⟩ = some (.int .i64 y.c) ∧ w'.cell? ⟨Y, 3, none⟩ = some (.int .i64 y.v) ∧ w'.cell? ⟨bA, oA + k * 6 + 5, none⟩ = some (.slice (some ⟨p1, 0, none⟩) n k1))) (by kernel_rfl) ?_ (fun hHeld => ?_)
    ·go_keep
    refine Rgn.tk 0 rfl ?_
    try simp only [Act.put, Rgn.a, Rgn.b, Rgn.c]
    refine Rgn.tk 1 rfl ?_
    try simp only [Act.put, Rgn.a, Rgn.b, Rgn.c]
    refine Rgn.tk 2 rfl ?_
    try simp only [Act.put, Rgn.a, Rgn.b, Rgn.c]
    refine Rgn.tk 3 rfl ?_
    try simp only [Act.put, Rgn.a, Rgn.b, Rgn.c]
    refine Rgn.tk 4 rfl ?_
    try simp only [Act.put, Rgn.a, Rgn.b, Rgn.c]
    refine Rgn.tk 5 rfl ?_
    try simp only [Act.put, Rgn.a, Rgn.b, Rgn.c]
    refine Rgn.tk 6 rfl ?_
    try simp only [Act.put, Rgn.a, Rgn.b, Rgn.c]
    refine Rgn.one 7 rfl (by kernel_rfl) (fun K hK => ?_)
    go_simp
    refine (Ap.act_len y.c y.v (some ⟨p1, 0, none⟩) n k1 _ _ NA.out.drew' (by omega)).mono ?_
    rintro e wn ⟨A2, a2, rfl, bn⟩
    have y0 := Kit.cell_below bn c2
    have y1 := Kit.cell_below bn c3
    have y2 := Kit.cell_below bn m5
    clear c2 c3 m5
    have c2 := y0
    have c3 := y1
    have m5 := y2
    clear y0 y1 y2
    have HBn := Lib.hid (HB.out.drew.trans (bn.mono HB.out.drew.size))
    clear bn
    go_simp
    refine hK.out _ _ ?_ (fun hHeld => ?_)
    ·go_keep
    clear hK K
    try simp only [Act.put, Rgn.a, Rgn.b, Rgn.c]
    refine Rgn.tk 8 rfl ?_
    try simp only [Act.put, Rgn.a, Rgn.b, Rgn.c]
    refine Rgn.tk 9 rfl ?_
    try simp only [Act.put, Rgn.a, Rgn.b, Rgn.c]
    refine wpAnyH_done (by kernel_rfl) ?_ _
    have hcase : ((y.c != 1) = false) ∨ ((y.c != 1) = true ∧ (Vw.active y.c y.v xs).length = 0) ∨ ((y.c != 1) = true ∧ 0 < (Vw.active y.c y.v xs).length ∧ ¬ (k : Int) < r) := by
     by_cases h1 : y.c = 1
     ·left; simp [h1]
     ·right
      by_cases h2 : (Vw.active y.c y.v xs).length = 0
      ·left; exact ⟨by simp [h1], h2⟩
      ·right; exact ⟨by simp [h1], by omega, fun h => h2 (Q1.out h1 h)⟩
    generalize (Vw.active y.c y.v xs).length = L at *
    clear Q1
    rcases hcase with g0 | ⟨g0, rfl⟩ | ⟨g0, g1, g2⟩
    all_goals
     go_wp2_with fail
     clear c2 c3 m5
     go_loopw [9] (fun vi wr => ∃ i : Nat, i ≤ n ∧ vi = .int .i64 i ∧ Hid (Below w6.heap.size w6 wr)) (fun vi _ => n - (intOf vi).toNat)
     case atStart => exact ⟨0, by omega, rfl, HBn⟩
     case round =>
      obtain ⟨i, hi, rfl, HC⟩ := hrel
      have d0 := (RS6.out.below HC.out).at_ 0 (.int .i64 s.n) rfl
      rw [HNN.out] at d0
      by_cases hin : i < n
      ·have gi : decide ((i : Int) < (n : Int)) = true := decide_eq_true (by omega)
       have c4 := (RY6.out.below HC.out).at_ 4 (.slice y.pa y.n y.pc) rfl
       obtain ⟨bP, oP, epa, hbP, mp⟩ := (TY6.out.below HC.out).power.at_ (q := i) (by rw [HY.out.1]; exact hin)
       rw [epa, HY.out.1] at c4
       have m5 := (HC.out.cell (p := ⟨bA, oA + k * 6 + 5, none⟩) hbA).trans M5.out
       obtain ⟨bN, oN, eN, hbN, n0, n1, n2, n3⟩ := Nodes.at_ (NA0.out.below HC.out) hin
       rw [eN] at m5
       have hq := Q2.out i hin
       generalize y.power.getD i 0 = P at *
       by_cases hP : (k : Int) < P
       ·have gP : decide ((k : Int) < P) = true := decide_eq_true hP
        rw [hq hP] at n0 n1 n2 n3
        clear hq hP epa eN hbP hbN
        go_wp2_with fail
        go_roundw
        case rel => exact ⟨i + 1, by omega, by go_num, HC⟩
        case measure => simp [intOf]; omega
       ·have gP : decide ((k : Int) < P) = false := decide_eq_false hP
        clear hq hP epa eN hbP hbN n0 n1 n2 n3
        go_wp2_with fail
        go_roundw
        case rel => exact ⟨i + 1, by omega, by go_num, HC⟩
        case measure => simp [intOf]; omega
      ·have gi : decide ((i : Int) < (n : Int)) = false := decide_eq_false (by omega)
       go_wp2_with fail
       go_roundw
       case rel => exact ⟨k + 1, by omega, by go_num, HC⟩
       case measure => simp [intOf]; omega
   ·have gk : decide ((k : Int) < (s.tn : Int)) = false := decide_eq_false (by omega)
    go_wp2_with fail
    refine (Aw.awake_calls _).mono ?_
    rintro e wz ⟨rfl, bz⟩
    have HBZ := Lib.hid (HB6.out.trans ((HB.out.trans (bz.mono HB.out.size)).mono HB6.out.size))
    clear bz
    go_wp2_with fail
    go_ret
    exact ⟨rfl, HBZ.out⟩
theorem walk (v : Value) {w : World} (w0 : Op.IsScript w v) (w' : World) (hw : w' = w := by rfl) :
  Calls Tryz.prog 5 #[v] w' fun e w2 => e = .returned (.bool true) ∧ Below w'.heap.size w' w2 := by
 subst hw
 obtain ⟨s, rfl, hS⟩ := w0
 exact walk1 s _ hS
end Go.Proofs.YtgiojagdmglinaaGreatDoor.WholePower
namespace Go.Proofs.YtgiojagdmglinaaGreatDoor.WholePower
open Go.ChangeShapes Go.WideShapes Go.ChangeAt Go.RowKit
open Go.ChangeMaps (open_string shut_string)
set_option maxHeartbeats 400000 in
theorem lifted (os : Os) (started : os.Started) (H : Type) (enc : TypeId × Value → H) :
  ReturnsInHanded {} Tryz.checked os 5 .any (fun w args => (Rows.wholePowerSpec.pre enc Tryz.prog Tryz.f5 [] false w args ∧ laidMetH Tryz.prog Dor.laid3 w) ∧ sizedMet enc Tryz.prog Tryz.f5 (OpenSpec.ofChange Rows.wholePowerSpec) false w args) (Rows.wholePowerSpec.post enc Tryz.prog Tryz.f5 false true false false) := by
 refine returnsInHanded_of_change_and (C := Tryz.checked) (X := fun w _ => laidMetH Tryz.prog Dor.laid3 w) (fun _ _ _ hh h => h.of_heap hh) own started (by kernel_rfl) Tryz.func5
  (ChangeSpec.witness_shaped (enc := enc) (C := Tryz.checked) (os := os) (X := fun w _ => laidMetH Tryz.prog Dor.laid3 w) false (World.doorLaid Tryz.prog 24 os) #[.agg #[.int .i64 0, .slice none 0 0, .int .i64 0, .int .i64 0, .bool false, .slice none 0 0, .int .i64 0, .int .i64 0, .int .i64 0, .int .i64 0, .int .i64 0, .int .i64 0, .int .i64 0, .int .i64 0, .int .i64 0, .int .i64 0, .int .i64 0, .int .i64 0, .int .i64 0, .int .i64 0, .int .i64 0, .int .i64 0, .int .i64 0, .int .i64 0, .int .i64 0, .int .i64 0, .int .i64 0, .int .i64 0, .int .i64 0, .int .i64 0, .slice none 0 0]] 8 rfl (Dor.shaped os _) (by kernel_rfl) (by kernel_rfl) (by kernel_rfl) (Dor.met os _)) ?_
 intro W base args ds gs before hval0 hW _ _ _ _
 have hval : ∀ (j : Nat) t v, Tryz.f5.params[j]? = some t → args[j]? = some v → Value.okWide Tryz.prog W .any base t v := hval0
 have hW' := hW
 obtain ⟨p, q, hA0, hV, rfl, hfz, hnd⟩ := hW
 have hA : DataW.TrodAll enc Tryz.prog W 0 (fun _ => true) true Tryz.f5.params.toList args.toList ds p := hA0
 rw [Tryz.params5] at hA hval
 obtain ⟨v0, vs0, d0, ds0, p0, q0, hargs, rfl, rfl, h0, r0⟩ := trodAll_cons hA
 obtain ⟨rfl, rfl, rfl⟩ := trodAll_nil r0
 obtain rfl : args = #[v0] := by cases args; simp_all
 obtain ⟨rfl, rfl⟩ := trodVars_none hV
 have k0 := h0
 have lt0 : ∀ x ∈ p0, x.block < W.heap.size := by obtain ⟨m, hm⟩ := k0; exact DataW.trod_lt m _ _ _ hm
 have w0 := Op.isScript (hval 0 32 v0 rfl rfl) h0
 clear hA0 hval0
 refine (walk v0 w0 W).mono fun e W' ⟨he, bel⟩ => ?_
 subst he
 exact ⟨_, rfl, _, _, _, [], _, [], hW', trodAll_mk1 (shut_bool Tryz.underlying4 _), (trodAll_cons_mk (Below.trod laidOut (by kernel_rfl) (of_decide_eq_true (by kernel_rfl)) k0 bel lt0) trodAll_mk0), rfl, bel.frame _, fun h => by cases h⟩
theorem over : Rows.wholePowerRow.holds Tryz.pinned (OpenSpec.ofChange Rows.wholePowerSpec) :=
 OpenClaim.holds_of_wide 5 Tryz.f5 rfl rfl rfl rfl rfl rfl rfl ⟨rfl, rfl, rfl, rfl, rfl⟩ rfl rfl rfl rfl rfl named Tryz.func5 facts
  (of_decide_eq_true (by kernel_rfl)) (by unfold Func.isWrapper; first | (rw [if_pos (by decide +kernel)]; kernel_rfl) | (rw [if_neg (by decide +kernel)]; exact ⟨rfl, rfl⟩))
  (fun os started H enc _ => lifted os started H enc)
theorem proved : Rows.WholePowerCardSaid :=
 Claim7.holds_tied_plain_at .later [] [.data, .data, .data] true (true, "bc756e22a1b164c7e6f02c199b2fccdb787ee550ccd8ea457d36e9ca7ed46377") false
  over (fun _ h => by cases h) (by kernel_rfl) (fun _ h => by cases h) wholePower_row_tie rfl ⟨rfl, rfl⟩ (by kernel_rfl) rfl
  (fun f fn hf hfn => by
   obtain rfl : f = 5 := Option.some.inj ((show Tryz.prog.funcNamed "daybreak/daybreaktop.WholePower" = some 5 by kernel_rfl).symm.trans hf) |>.symm
   obtain rfl : fn = Tryz.f5 := (Option.some.inj (Tryz.func5.symm.trans hfn)).symm
   exact ⟨by kernel_rfl, fun j t ht => by
    rw [Tryz.params5] at ht
    have hm : t ∈ [32] := by simpa using Array.mem_of_getElem? ht
    have hall : ([32].all fun u => !Tryz.prog.wantsStandIn u) = true := by kernel_rfl
    exact (show Tryz.prog.wantsStandIn t = false by simpa using List.all_eq_true.1 hall t hm)⟩)
  (by kernel_rfl)
#print axioms proved
end Go.Proofs.YtgiojagdmglinaaGreatDoor.WholePower
