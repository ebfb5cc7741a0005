/-
  Part 30 of a merged text.
-/
import Derived.Test.YtgiojagdmglinaaGreatDoorGb29
import Derived.Test.YtgiojagdmglinaaGreatDoorGb04
import Derived.Test.YtgiojagdmglinaaGreatDoorGb22
import Derived.Test.YtgiojagdmglinaaGreatDoorProg
import Derived.Lib.AppendStr
import Derived.Lib.UnsafeStr
import Derived.Lib.Hide
import Derived.Deep.Cut
set_option linter.unusedVariables false
set_option linter.unusedSimpArgs false
set_option maxRecDepth 100000
namespace Go.Proofs.YtgiojagdmglinaaGreatDoor
open Go Go.RowKit Vote
namespace Sw
def start (n : Nat) (s : Sc) (p G : Nat) : Wd := { n := n, tick := 0, c := if Flt.may n s.c s.v then s.c else 0, v := if Flt.may n s.c s.v then s.v else 0, pa := some ⟨p, 0, none⟩, pc := n, power := Pc.clean n s.power, na := some ⟨G, 0, none⟩, nc := n, nodes := (List.range n).map Nw.off, h0 := Wm.fresh n, h1 := Wm.fresh n }
theorem may_none (n : Nat) (h3 : 3 ≤ n) : Flt.may n 0 0 = true := by
 unfold Flt.may Flt.manyOf
 simp
theorem start_right (n : Nat) (s : Sc) (p G : Nat) (h3 : 3 ≤ n) (h8 : n ≤ 8) : (start n s p G).Right where
 lo := h3
 hi := h8
 tick := ⟨Int.le_refl _, by show (0 : Int) ≤ Wm.mostCount; unfold Wm.mostCount; omega⟩
 fault := by
  show Flt.may n (if Flt.may n s.c s.v then s.c else 0) (if Flt.may n s.c s.v then s.v else 0) = true
  split
  ·assumption
  ·exact may_none n h3
 pl := by show (Pc.clean n s.power).length = n; simp [Pc.clean]
 pw := fun i hi => by
  show 0 ≤ (Pc.clean n s.power).getD i 0 ∧ (Pc.clean n s.power).getD i 0 ≤ 2000
  have e : (Pc.clean n s.power).getD i 0 = Tal.clamp (s.power.getD i 0) 0 2000 := by
   have hi' : i < n := hi
   simp [Pc.clean, hi']
  rw [e]
  unfold Tal.clamp
  omega
 nl := by show ((List.range n).map Nw.off).length = n; simp
 nd := fun i hi => by
  have hi' : i < n := hi
  have e : ndAt (start n s p G).nodes i = Nw.off i := by
   show ndAt ((List.range n).map Nw.off) i = Nw.off i
   unfold ndAt
   simp [hi']
  rw [e]
  exact ⟨rfl, by show (0 : Int) ≤ 0 ∧ (0 : Int) ≤ 3; omega, by show (0 : Int) ≤ 0 ∧ (0 : Int) ≤ Wm.mostCount; unfold Wm.mostCount; omega, by show (0 : Int) ≤ 0 ∧ (0 : Int) < (n : Int); omega, fun _ => rfl, fun _ => rfl⟩
 r0 := Wm.fresh_right (by show 0 < n; omega) h8
 r1 := Wm.fresh_right (by show 0 < n; omega) h8
def _root_.Go.Proofs.YtgiojagdmglinaaGreatDoor.Sc.cells (s : Sc) : List Value := [.int .i64 s.n, .slice s.pa s.pn s.pc, .int .i64 s.c, .int .i64 s.v, .bool s.ld, .slice s.na s.nn s.nc, .int .i64 (s.h0.ag 0), .int .i64 (s.h0.ag 1), .int .i64 (s.h0.ag 2), .int .i64 (s.h0.ag 3), .int .i64 (s.h0.ag 4), .int .i64 (s.h0.ag 5), .int .i64 (s.h0.ag 6), .int .i64 (s.h0.ag 7), .int .i64 s.h0.port, .int .i64 s.h0.age, .int .i64 s.h0.hold, .int .i64 s.h0.pos, .int .i64 (s.h1.ag 0), .int .i64 (s.h1.ag 1), .int .i64 (s.h1.ag 2), .int .i64 (s.h1.ag 3), .int .i64 (s.h1.ag 4), .int .i64 (s.h1.ag 5), .int .i64 (s.h1.ag 6), .int .i64 (s.h1.ag 7), .int .i64 s.h1.port, .int .i64 s.h1.age, .int .i64 s.h1.hold, .int .i64 s.h1.pos, .slice s.ta s.tn s.tc]
theorem all0_calls (n : Nat) (s : Sc) (w : World) (h3 : 3 ≤ n) (h8 : n ≤ 8) (hn : s.n = n) (hld : s.ld = false) (hp : Whole w s.pa s.pn s.power) (hl : Chs w s.ta s.tn s.ticks) (hm : s.tn ≤ 1000000) :
  Calls Tryz.prog 13 #[.agg s.cells.toArray] w fun e w' => ∃ p G A cap ads, e = .returned (.tuple #[.slice A s.tn cap, .agg (now (start n s p G) s.ticks ads).cells.toArray, .int .i64 0]) ∧ ads.length = s.tn ∧ Looks w' A s.tn (lks (start n s p G) s.ticks ads) ∧ Away w.heap.size A (lks (start n s p G) s.ticks ads) ∧ (now (start n s p G) s.ticks ads).There w' ∧ Below w.heap.size w w' := by
 refine (all_of s (fun x => ∃ p G, x = start n s p G) w hl hm ?_).mono ?_
 ·intro W hW
  have h1 := Nw.new0_calls n s W h3 h8 hn hld (hp.below hW)
  rw [hn, hld]
  refine h1.mono ?_
  rintro e w' ⟨p, G, rfl, ht, hp1, hG1, hb⟩
  refine ⟨start n s p G, ⟨p, G, rfl⟩, start_right n s p G h3 h8, ?_, ht, ?_, ?_, hb⟩
  ·rfl
  ·intro b o e
   injection e with e
   injection e with e1 _ _
   omega
  ·intro b o e
   injection e with e
   injection e with e1 _ _
   omega
 ·rintro e w' ⟨x, A, cap, ads, ⟨p, G, rfl⟩, _, rfl, hn, hlk, haw, ht, hb⟩
  exact ⟨p, G, A, cap, ads, rfl, hn, hlk, haw, ht, hb⟩
end Sw
end Go.Proofs.YtgiojagdmglinaaGreatDoor
namespace Go.Proofs.YtgiojagdmglinaaGreatDoor
namespace Wm
structure In (n : Nat) (F : Nat → Bool) (xs : List Nd) (l : List Fr) : Prop where
 own : ∀ p, p < n → F p = false → frAt l p = say n (ndAt xs p)
 any : ∀ p, p < n → frAt l p = Fr.none ∨ frAt l p = ⟨1, p⟩ ∨ frAt l p = ⟨2, p⟩
 len : l.length = n
def Out (n : Nat) (F : Nat → Bool) (xs : List Nd) (f : Fr) (ys : List Nd) : Prop :=
 ∀ i, i < n → F i = false → ((ndAt xs i).md = 0 → (ndAt ys i).md = 0 ∨ (ndAt ys i).md = 1) ∧ ((ndAt xs i).md ≠ 0 → ndAt ys i = act1 n (ndAt xs i) f)
structure Base (n : Nat) (F : Nat → Bool) (h : Hb) (xs : List Nd) : Prop where
 lo : 3 ≤ n
 hi : n ≤ 8
 hub : Right n h
 nodes : ∀ i, i < n → NRight n i (ndAt xs i)
 one : ∀ i j, F i = true → F j = true → i = j
def InvA (n : Nat) (F : Nat → Bool) (h : Hb) (xs : List Nd) : Prop := ∀ i, i < n → F i = false → (ndAt xs i).md ≠ 3 ∧ h.ag i = n
def dist (n : Nat) (s j : Int) : Int := if s ≤ j then j - s else j + n - s
def wrap (n : Nat) (a : Int) : Int := if a < n then a else a - n
structure Early (n : Nat) (F : Nat → Bool) (h : Hb) (xs : List Nd) (s e : Int) : Prop where
 hold : h.hold = 0
 ages : ∀ i, i < n → F i = false → h.ag i = n
 soon : h.age + 1 + e ≤ n - 1
 slot : s = wrap n (h.port + h.age + 1)
 ct : ∀ i, i < n → F i = false → (ndAt xs i).md = 3 → (ndAt xs i).ct ≤ h.age
structure Held (n : Nat) (F : Nat → Bool) (h : Hb) (xs : List Nd) (s e : Int) : Prop where
 hold : 0 < h.hold
 slot : s = nx n h.pos
 soon : e + 2 ≤ h.hold
 ct : ∀ i, i < n → F i = false → (ndAt xs i).md = 3 → (ndAt xs i).ct + e ≤ 2 * n
structure InvB (n : Nat) (F : Nat → Bool) (h : Hb) (xs : List Nd) (j : Nat) (s e : Int) : Prop where
 jn : j < n
 jc : F j = false
 ja : (ndAt xs j).md = 3
 s0 : 0 ≤ s
 sn : s < n
 de : e = dist n s j
 ps : ∀ i, i < n → F i = false → (ndAt xs i).md = 3 → (ndAt xs i).ps = s
 kind : Early n F h xs s e ∨ Held n F h xs s e
theorem eight_ag (f : Nat → Int) (p : Nat) (h : p < 8) (a b c d : Int) : (Hb.mk (eight f) a b c d).ag p = f p := eight_at f p h
theorem frAt_out {l : List Fr} {n p : Nat} (h : l.length = n) (hp : n ≤ p) : frAt l p = Fr.none := by
 unfold frAt
 rw [List.getD_eq_getElem?_getD, List.getElem?_eq_none (by omega)]
 rfl
section
variable {n : Nat} {F : Nat → Bool} {h : Hb} {xs ys : List Nd} {l : List Fr}
theorem heard_ag (B : Base n F h xs) (p : Nat) (hp : p < n) : (note n (tick n h) l).ag p = if (frAt l p).k = 2 then 0 else if h.ag p = n then (n : Int) else h.ag p + 1 := by
 have h8 : p < 8 := by have := B.hi; omega
 have a := B.hub.ag p hp
 have e1 : (note n (tick n h) l).ag p = (eight fun p => if p < n ∧ (frAt l p).k = 2 then 0 else (tick n h).ag p).getD p 0 := rfl
 have e2 : (tick n h).ag p = (eight fun p => up (h.ag p) (most n p)).getD p 0 := rfl
 rw [eight_at _ _ h8] at e1 e2
 rw [e1]
 by_cases c : (frAt l p).k = 2
 ·rw [if_pos ⟨hp, c⟩, if_pos c]
 ·rw [if_neg (fun e => c e.2), if_neg c]
  rw [e2]
  unfold most
  rw [if_pos hp, up_of a.1 a.2]
theorem says_iff (I : In n F xs l) (B : Base n F h xs) (p : Nat) (hp : p < n) (hc : F p = false) : (frAt l p).k = 2 ↔ (ndAt xs p).md = 3 ∧ (ndAt xs p).ps = p := by
 rw [I.own p hp hc]
 have hid := (B.nodes p hp).id
 constructor
 ·intro e
  obtain ⟨h1, h2, _⟩ := say_info e
  exact ⟨h1, by rw [h2, hid]⟩
 ·rintro ⟨h1, h2⟩
  rw [say_own h1 (by rw [h2, hid])]
theorem stepA (B : Base n F h xs) (I : In n F xs l) (hA : InvA n F h xs) (hO : Out n F xs (hub n h l).2 ys) :
  InvA n F (hub n h l).1 ys ∨ ∃ j s e, InvB n F (hub n h l).1 ys j s e := by
 have hlo := B.lo
 have hhi := B.hi
 have hage : ∀ i, i < n → F i = false → (note n (tick n h) l).ag i = n := fun i hi hc => by
  rw [heard_ag B i hi, if_neg (fun e => (hA i hi hc).1 ((says_iff I B i hi hc).1 e).1), if_pos (hA i hi hc).2]
 have hset : ∃ q ho, settle n (note n (tick n h) l) = { note n (tick n h) l with pos := q, hold := ho } ∧ 0 ≤ q ∧ q < n ∧ 0 ≤ ho := by
  have hp := B.hub.pos
  have hn : 0 ≤ nx n h.pos ∧ nx n h.pos < n := by unfold nx; split <;> omega
  have hh : (0 : Int) ≤ max h.hold 1 - 1 := by omega
  unfold settle
  split
  ·refine ⟨_, _, rfl, by omega, ?_, by omega⟩
   unfold chosen
   split
   ·have := (best_spec n (note n (tick n h) l) (by omega)).1
    show ((best n _).1 : Int) < n
    omega
   ·show (((note n (tick n h) l).pos.toNat : Nat) : Int) < n
    have : (note n (tick n h) l).pos = nx n h.pos := rfl
    omega
  ·exact ⟨nx n h.pos, max h.hold 1 - 1, rfl, hn.1, hn.2, hh⟩
 obtain ⟨q, ho, hs, q0, qn, ho0⟩ := hset
 have hub_eq : hub n h l = relay n { note n (tick n h) l with pos := q, hold := ho } l := by unfold hub; rw [hs]
 rw [hub_eq] at hO ⊢
 generalize note n (tick n h) l = h2 at *
 clear hs hub_eq
 unfold relay at hO ⊢
 simp only at hO ⊢
 have quiet : ∀ h' : Hb, h'.ages = h2.ages → Out n F xs Fr.none ys → InvA n F h' ys := fun h' hag hO i hi hc => by
  refine ⟨?_, by unfold Hb.ag; rw [hag]; exact hage i hi hc⟩
  obtain ⟨o1, o2⟩ := hO i hi hc
  have hm := (B.nodes i hi).md
  have h3 := (hA i hi hc).1
  by_cases h0 : (ndAt xs i).md = 0
  ·have := o1 h0; omega
  ·have hr := act_rest n (ndAt xs i) (by omega)
   rw [o2 h0]; omega
 by_cases hp : 0 < ho
 ·rw [if_pos hp] at hO ⊢
  by_cases hk : (frAt l q.toNat).k = 2
  ·rw [if_pos hk] at hO ⊢
   simp only at hO ⊢
   have hq : q.toNat < n := by omega
   have hf : frAt l q.toNat = ⟨2, q⟩ := by
    rcases I.any _ hq with e | e | e
    ·rw [e] at hk; simp [Fr.none] at hk
    ·rw [e] at hk; simp at hk
    ·rw [e]; congr; omega
   rw [hf] at hO
   by_cases hex : ∃ i, i < n ∧ F i = false ∧ (ndAt xs i).md ≠ 0
   ·obtain ⟨j, hj, hjc, hj0⟩ := hex
    have hmd : ∀ i, i < n → F i = false → (ndAt xs i).md ≠ 0 → ndAt ys i = join n (ndAt xs i) q := fun i hi hc h0 => by
     rw [(hO i hi hc).2 h0]
     have hm := (B.nodes i hi).md
     have h3 := (hA i hi hc).1
     exact act_info n _ _ (by omega)
    have hac : ∀ i, i < n → F i = false → (ndAt ys i).md = 3 → ndAt ys i = join n (ndAt xs i) q := fun i hi hc h3 => by
     by_cases h0 : (ndAt xs i).md = 0
     ·have := (hO i hi hc).1 h0; omega
     ·exact hmd i hi hc h0
    have hs : 0 ≤ nx n q ∧ nx n q < n := by unfold nx; split <;> omega
    refine Or.inr ⟨j, nx n q, dist n (nx n q) j, ⟨hj, hjc, by rw [hmd j hj hjc hj0]; rfl, hs.1, hs.2, rfl, fun i hi hc h3 => by rw [hac i hi hc h3]; rfl, Or.inr ⟨?_, rfl, ?_, fun i hi hc h3 => ?_⟩⟩⟩
    ·show (0 : Int) < 2 * n; omega
    ·show dist n (nx n q) j + 2 ≤ 2 * n
     unfold dist; split <;> omega
    ·rw [hac i hi hc h3]
     show (0 : Int) + dist n (nx n q) j ≤ 2 * n
     unfold dist; split <;> omega
   ·refine Or.inl fun i hi hc => ⟨?_, hage i hi hc⟩
    have h0 : (ndAt xs i).md = 0 := Classical.byContradiction fun h0 => hex ⟨i, hi, hc, h0⟩
    have := (hO i hi hc).1 h0
    omega
  ·rw [if_neg hk] at hO ⊢
   exact Or.inl (quiet _ rfl hO)
 ·rw [if_neg hp] at hO ⊢
  cases hc : firstCs l with
  | none =>
   rw [hc] at hO
   exact Or.inl (quiet _ rfl hO)
  | some p =>
   rw [hc] at hO
   simp only at hO ⊢
   by_cases ha : h2.age ≤ 2 * n
   ·rw [if_pos ha] at hO ⊢
    exact Or.inl (quiet _ rfl hO)
   ·rw [if_neg ha] at hO ⊢
    simp only at hO ⊢
    obtain ⟨hpl, hpk⟩ : p < n ∧ (frAt l p).k = 1 := by
     unfold firstCs at hc
     rw [List.findIdx?_eq_some_iff_getElem] at hc
     obtain ⟨h1, h2, _⟩ := hc
     refine ⟨by rw [← I.len]; exact h1, ?_⟩
     unfold frAt
     rw [List.getD_eq_getElem?_getD, List.getElem?_eq_getElem h1]
     simpa using h2
    have hf : frAt l p = ⟨1, p⟩ := by
     rcases I.any _ hpl with e | e | e
     ·rw [e] at hpk; simp [Fr.none] at hpk
     ·exact e
     ·rw [e] at hpk; simp at hpk
    rw [hf] at hO
    have hages : ∀ i, i < n → (Hb.mk (eight fun i => if i < n then (n : Int) else h2.ag i) p 0 ho q).ag i = n := fun i hi => by
     rw [eight_ag _ _ (by omega), if_pos hi]
    have hac : ∀ i, i < n → F i = false → (ndAt ys i).md = 3 → (i : Int) ≠ p ∧ ndAt ys i = join n (ndAt xs i) p := fun i hi hc h3 => by
     have hm := (B.nodes i hi).md
     have hA3 := (hA i hi hc).1
     by_cases h0 : (ndAt xs i).md = 0
     ·have := (hO i hi hc).1 h0; omega
     ·have e := (hO i hi hc).2 h0
      rw [e] at h3 ⊢
      rcases act_cs n (ndAt xs i) p (by omega) with h1 | ⟨h1, h2⟩
      ·omega
      ·rw [(B.nodes i hi).id] at h1
       exact ⟨h1, h2⟩
    by_cases hex : ∃ i, i < n ∧ F i = false ∧ (ndAt ys i).md = 3
    ·obtain ⟨j, hj, hjc, hj3⟩ := hex
     have hjp := (hac j hj hjc hj3).1
     have hs : 0 ≤ nx n p ∧ nx n p < n := by unfold nx; split <;> omega
     refine Or.inr ⟨j, nx n p, dist n (nx n p) j, ⟨hj, hjc, hj3, hs.1, hs.2, rfl, fun i hi hc h3 => by rw [(hac i hi hc h3).2]; rfl, Or.inl ⟨?_, fun i hi _ => hages i hi, ?_, ?_, fun i hi hc h3 => ?_⟩⟩⟩
     ·show ho = 0; omega
     ·show (0 : Int) + 1 + dist n (nx n p) j ≤ n - 1
      unfold dist nx; split <;> split <;> omega
     ·show nx n p = wrap n ((p : Int) + 0 + 1)
      unfold nx wrap; split <;> split <;> omega
     ·rw [(hac i hi hc h3).2]
      show (0 : Int) ≤ 0
      omega
    ·exact Or.inl fun i hi hc => ⟨fun h3 => hex ⟨i, hi, hc, h3⟩, hages i hi⟩
end
end Wm
end Go.Proofs.YtgiojagdmglinaaGreatDoor
namespace Go.Proofs.YtgiojagdmglinaaGreatDoor
namespace Wm
section
variable {n : Nat} {F : Nat → Bool} {h : Hb} {xs ys : List Nd} {l : List Fr} {j : Nat} {s e : Int}
structure Next (n : Nat) (F : Nat → Bool) (xs ys : List Nd) (h' : Hb) (f : Fr) (j : Nat) (s e : Int) : Prop where
 stay : ∀ i, i < n → F i = false → (ndAt xs i).md = 3 → (ndAt ys i).md = 3
 then_ : (f = ⟨2, s⟩ ∧ (∃ e', InvB n F h' ys j (nx n s) e') ∧ ∀ i, i < n → F i = false → (ndAt xs i).md ≠ 0 → (ndAt ys i).md = 3) ∨ (f = Fr.none ∧ 0 < e ∧ InvB n F h' ys j (nx n s) (e - 1))
theorem nx_bounds (hs : 0 ≤ s ∧ s < n) : 0 ≤ nx n s ∧ nx n s < n := by unfold nx; split <;> omega
theorem next_info (B : Base n F h xs) (V : InvB n F h xs j s e) (h' : Hb) (hh : h'.hold = 2 * n) (hp : h'.pos = s) (hO : Out n F xs ⟨2, s⟩ ys) : Next n F xs ys h' ⟨2, s⟩ j s e := by
 have hlo := B.lo
 have hs := nx_bounds ⟨V.s0, V.sn⟩
 have hall : ∀ i, i < n → F i = false → (ndAt xs i).md ≠ 0 → (ndAt ys i).md = 3 ∧ (ndAt ys i).ct = 0 ∧ (ndAt ys i).ps = nx n s := fun i hi hc h0 => by
  have e := (hO i hi hc).2 h0
  have hm := (B.nodes i hi).md
  by_cases h3 : (ndAt xs i).md = 3
  ·have hps := V.ps i hi hc h3
   have := act_match n (ndAt xs i) h3 (by omega)
   rw [hps] at this
   rw [e, this]
   exact ⟨rfl, rfl, rfl⟩
  ·rw [e, act_info n _ _ (by omega)]
   exact ⟨rfl, rfl, rfl⟩
 have hact : ∀ i, i < n → F i = false → (ndAt ys i).md = 3 → (ndAt ys i).ct = 0 ∧ (ndAt ys i).ps = nx n s := fun i hi hc h3 => by
  by_cases h0 : (ndAt xs i).md = 0
  ·have := (hO i hi hc).1 h0; omega
  ·exact (hall i hi hc h0).2
 have hj0 : (ndAt xs j).md ≠ 0 := by rw [V.ja]; decide
 refine ⟨fun i hi hc h3 => (hall i hi hc (by omega)).1, Or.inl ⟨rfl, ⟨dist n (nx n s) j, ⟨V.jn, V.jc, (hall j V.jn V.jc hj0).1, hs.1, hs.2, rfl, fun i hi hc h3 => (hact i hi hc h3).2, Or.inr ⟨?_, ?_, ?_, fun i hi hc h3 => ?_⟩⟩⟩, fun i hi hc h0 => (hall i hi hc h0).1⟩⟩
 ·omega
 ·rw [hp]
 ·have := V.jn
  rw [hh]; unfold dist; split <;> omega
 ·have := V.jn
  rw [(hact i hi hc h3).1]; unfold dist; split <;> omega
theorem next_none (B : Base n F h xs) (V : InvB n F h xs j s e) (h' : Hb) (he : 0 < e) (hct : ∀ i, i < n → F i = false → (ndAt xs i).md = 3 → (ndAt xs i).ct + 1 < 8 * n) (hO : Out n F xs Fr.none ys)
  (hk : (∀ i, i < n → F i = false → (ndAt ys i).md = 3 → (ndAt xs i).md = 3 ∧ (ndAt ys i).ct = (ndAt xs i).ct + 1) → Early n F h' ys (nx n s) (e - 1) ∨ Held n F h' ys (nx n s) (e - 1)) :
  Next n F xs ys h' Fr.none j s e := by
 have hs := nx_bounds ⟨V.s0, V.sn⟩
 have hall : ∀ i, i < n → F i = false → (ndAt xs i).md = 3 → (ndAt ys i).md = 3 ∧ (ndAt ys i).ct = (ndAt xs i).ct + 1 ∧ (ndAt ys i).ps = nx n s := fun i hi hc h3 => by
  have e := (hO i hi hc).2 (by omega)
  rw [e, act_quiet n _ h3 (B.nodes i hi).ct.1 (hct i hi hc h3) B.hi, V.ps i hi hc h3]
  exact ⟨rfl, rfl, rfl⟩
 have hact : ∀ i, i < n → F i = false → (ndAt ys i).md = 3 → (ndAt xs i).md = 3 := fun i hi hc h3 => by
  have hm := (B.nodes i hi).md
  by_cases h0 : (ndAt xs i).md = 0
  ·have := (hO i hi hc).1 h0; omega
  ·by_cases h3' : (ndAt xs i).md = 3
   ·exact h3'
   ·have e := (hO i hi hc).2 h0
    have := act_rest n (ndAt xs i) (by omega)
    rw [← e] at this
    omega
 have hV := V.de
 have hj := V.jn
 have hs0 := V.s0
 have hsn := V.sn
 refine ⟨fun i hi hc h3 => (hall i hi hc h3).1, Or.inr ⟨rfl, he, ⟨V.jn, V.jc, (hall j V.jn V.jc V.ja).1, hs.1, hs.2, ?_, fun i hi hc h3 => (hall i hi hc (hact i hi hc h3)).2.2, hk fun i hi hc h3 => ⟨hact i hi hc h3, (hall i hi hc (hact i hi hc h3)).2.1⟩⟩⟩⟩
 rw [hV] at he ⊢
 unfold dist nx at *
 split <;> split <;> split at he <;> omega
theorem slot_info (B : Base n F h xs) (I : In n F xs l) (V : InvB n F h xs j s e) (hk : (frAt l s.toNat).k = 2) : frAt l s.toNat = ⟨2, s⟩ := by
 have h0 := V.s0
 have hn := V.sn
 have hq : s.toNat < n := by omega
 rcases I.any _ hq with e | e | e
 ·rw [e] at hk; simp [Fr.none] at hk
 ·rw [e] at hk; simp at hk
 ·rw [e]; congr; omega
theorem slot_quiet (B : Base n F h xs) (I : In n F xs l) (V : InvB n F h xs j s e) (hk : ¬ (frAt l s.toNat).k = 2) : (∀ i, i < n → F i = false → (ndAt xs i).md = 3 → (i : Int) ≠ s) ∧ 0 < e := by
 have h0 := V.s0
 have hn := V.sn
 have hq : s.toNat < n := by omega
 have h1 : ∀ i, i < n → F i = false → (ndAt xs i).md = 3 → (i : Int) ≠ s := fun i hi hc h3 e => by
  have : s.toNat = i := by omega
  rw [this] at hk
  exact hk ((says_iff I B i hi hc).2 ⟨h3, by rw [V.ps i hi hc h3]; exact e.symm⟩)
 refine ⟨h1, ?_⟩
 have := h1 j V.jn V.jc V.ja
 have hj := V.jn
 rw [V.de]
 unfold dist
 split <;> omega
theorem heldB (B : Base n F h xs) (I : In n F xs l) (V : InvB n F h xs j s e) (K : Held n F h xs s e) (hO : Out n F xs (hub n h l).2 ys) :
  Next n F xs ys (hub n h l).1 (hub n h l).2 j s e := by
 have hlo := B.lo
 have hhi := B.hi
 have hk1 := K.hold
 have hk3 := K.soon
 have he0 : 0 ≤ e := by rw [V.de]; have := V.s0; have := V.sn; unfold dist; split <;> omega
 have hpos : (note n (tick n h) l).pos = s := K.slot.symm
 have hhold : (note n (tick n h) l).hold = h.hold - 1 := by show max h.hold 1 - 1 = _; omega
 have hset : ∃ ho, settle n (note n (tick n h) l) = { note n (tick n h) l with pos := s, hold := ho } ∧ e + 1 ≤ ho := by
  have hb := B.hub.hold.2
  have hch : chosen n (note n (tick n h) l) = (s.toNat, votes n (note n (tick n h) l) s.toNat) := by
   unfold chosen
   rw [if_neg (by rw [hhold]; omega), hpos]
  unfold settle
  rw [hch]
  have hs := V.s0
  split
  ·refine ⟨2 * n, ?_, by omega⟩
   show ({ note n (tick n h) l with pos := ((s.toNat : Nat) : Int), hold := 2 * n } : Hb) = _
   rw [Int.toNat_of_nonneg hs]
  ·refine ⟨h.hold - 1, ?_, by omega⟩
   rw [← hhold]
   conv => rhs; rw [← hpos]
 obtain ⟨ho, hs, hho⟩ := hset
 have hub_eq : hub n h l = relay n { note n (tick n h) l with pos := s, hold := ho } l := by unfold hub; rw [hs]
 rw [hub_eq] at hO ⊢
 generalize note n (tick n h) l = h2 at *
 unfold relay at hO ⊢
 simp only at hO ⊢
 rw [if_pos (by omega)] at hO ⊢
 by_cases hk : (frAt l s.toNat).k = 2
 ·rw [if_pos hk] at hO ⊢
  rw [slot_info B I V hk] at hO ⊢
  exact next_info B V _ rfl rfl hO
 ·rw [if_neg hk] at hO ⊢
  obtain ⟨hq, he⟩ := slot_quiet B I V hk
  refine next_none B V _ he (fun i hi hc h3 => ?_) hO fun hy => Or.inr ⟨?_, rfl, ?_, fun i hi hc h3 => ?_⟩
  ·have := K.ct i hi hc h3; omega
  ·show 0 < ho; omega
  ·show e - 1 + 2 ≤ ho; omega
  ·obtain ⟨h1, h2⟩ := hy i hi hc h3
   have := K.ct i hi hc h1
   omega
theorem earlyB (B : Base n F h xs) (I : In n F xs l) (V : InvB n F h xs j s e) (K : Early n F h xs s e) (hO : Out n F xs (hub n h l).2 ys) :
  Next n F xs ys (hub n h l).1 (hub n h l).2 j s e := by
 have hlo := B.lo
 have hhi := B.hi
 have hs0 := V.s0
 have hsn := V.sn
 have hk1 := K.hold
 have hk3 := K.soon
 have hk4 := K.slot
 have hag := B.hub.age
 have hpt := B.hub.port
 have he0 : 0 ≤ e := by rw [V.de]; unfold dist; split <;> have := V.jn <;> omega
 have hage : (note n (tick n h) l).age = h.age + 1 := by
  show up h.age (2 * n + 1) = _
  rw [up_of hag.1 hag.2, if_neg (by omega)]
 have hport : (note n (tick n h) l).port = h.port := rfl
 have hhold : (note n (tick n h) l).hold = 0 := by show max h.hold 1 - 1 = _; omega
 have hags : ∀ i, i < n → F i = false → (note n (tick n h) l).ag i = if (frAt l i).k = 2 then 0 else (n : Int) := fun i hi hc => by
  rw [heard_ag B i hi, if_pos (K.ages i hi hc)]
 have hinfo : ∀ i, i < n → F i = false → (frAt l i).k = 2 → (i : Int) = s := fun i hi hc hk => by
  obtain ⟨h1, h2⟩ := (says_iff I B i hi hc).1 hk
  rw [← V.ps i hi hc h1, h2]
 have hub_eq : hub n h l = relay n (settle n (note n (tick n h) l)) l := rfl
 rw [hub_eq] at hO ⊢
 clear hub_eq
 generalize note n (tick n h) l = h2 at *
 have hasks : ∀ v p, p < n → asks n h2 v p = true → (p : Int) = h.port ∧ (v : Int) = s := fun v p hp ha => by
  unfold asks at ha
  simp only [Bool.and_eq_true, beq_iff_eq, decide_eq_true_eq] at ha
  obtain ⟨⟨a1, _⟩, a3⟩ := ha
  rw [hport] at a1
  refine ⟨a1.symm, ?_⟩
  rw [← a3, hage, ← a1, hk4]
  unfold wrap
  split
  ·rw [Int.emod_eq_of_lt (by omega) (by omega)]; omega
  ·rw [show h.port + (h.age + 1) = (h.port + h.age + 1 - n) + n by omega, Int.add_emod_right, Int.emod_eq_of_lt (by omega) (by omega)]
 have hsays : ∀ v p, p < n → F p = false → says n h2 v p = true → (p : Int) = s ∧ (v : Int) = s := fun v p hp hc ha => by
  unfold says at ha
  simp only [Bool.and_eq_true, beq_iff_eq, decide_eq_true_eq] at ha
  obtain ⟨a1, a2⟩ := ha
  rw [hags p hp hc] at a1 a2
  by_cases hk : (frAt l p).k = 2
  ·have := hinfo p hp hc hk
   rw [if_pos hk] at a2
   refine ⟨this, ?_⟩
   rw [← a2, Int.add_zero, Int.emod_eq_of_lt (by omega) (by omega), this]
  ·rw [if_neg hk] at a1; omega
 have hother : ∀ v, v < n → v ≠ s.toNat → votes n h2 v ≤ 1 := fun v hv hne => by
  by_cases hq : ∃ q, F q = true
  ·obtain ⟨q, hq⟩ := hq
   refine one_in q fun p hp hP => ?_
   by_cases hc : F p = false
   ·rcases Bool.or_eq_true _ _ ▸ hP with hP | hP
    ·have := (hsays v p hp hc hP).2; omega
    ·have := (hasks v p hp hP).2; omega
   ·exact B.one p q (by simpa using hc) hq
  ·refine one_in 0 fun p hp hP => ?_
   have hc : F p = false := by
    cases hc : F p with
    | false => rfl
    | true => exact absurd ⟨p, hc⟩ hq
   rcases Bool.or_eq_true _ _ ▸ hP with hP | hP
   ·have := (hsays v p hp hc hP).2; omega
   ·have := (hasks v p hp hP).2; omega
 have hch : chosen n h2 = best n h2 := by unfold chosen; rw [if_pos hhold]
 by_cases hv : 2 ≤ votes n h2 s.toNat
 ·obtain ⟨b1, b2⟩ := best_two n h2 (by omega) s.toNat (by omega) hv hother
  have hs : settle n h2 = { h2 with pos := s, hold := 2 * n } := by
   unfold settle
   rw [hch, if_pos b2, b1, Int.toNat_of_nonneg hs0]
  rw [hs] at hO ⊢
  unfold relay at hO ⊢
  simp only at hO ⊢
  rw [if_pos (by omega)] at hO ⊢
  by_cases hk : (frAt l s.toNat).k = 2
  ·rw [if_pos hk] at hO ⊢
   rw [slot_info B I V hk] at hO ⊢
   exact next_info B V _ rfl rfl hO
  ·rw [if_neg hk] at hO ⊢
   obtain ⟨hq, he⟩ := slot_quiet B I V hk
   refine next_none B V _ he (fun i hi hc h3 => ?_) hO fun hy => Or.inr ⟨?_, rfl, ?_, fun i hi hc h3 => ?_⟩
   ·have := K.ct i hi hc h3; omega
   ·show (0 : Int) < 2 * n; omega
   ·show e - 1 + 2 ≤ 2 * n; omega
   ·obtain ⟨h1, h2⟩ := hy i hi hc h3
    have := K.ct i hi hc h1
    omega
 ·have hone : ∀ v, v < n → votes n h2 v ≤ 1 := fun v hv' => by
   by_cases ev : v = s.toNat
   ·rw [ev]; omega
   ·exact hother v hv' ev
  have hs : settle n h2 = h2 := by
   unfold settle
   rw [hch, if_neg (best_one n h2 (by omega) hone)]
  rw [hs] at hO ⊢
  have hk : ∀ i, i < n → F i = false → ¬ (frAt l i).k = 2 := fun i hi hc hk => by
   have hi' := hinfo i hi hc hk
   refine hv (two_in (p := i) (q := h.port.toNat) hi (by omega) ?_ ?_ ?_)
   ·unfold wrap at hk4
    split at hk4 <;> omega
   ·rw [Bool.or_eq_true]
    left
    unfold says
    simp only [Bool.and_eq_true, beq_iff_eq, decide_eq_true_eq]
    rw [hags i hi hc, if_pos hk, Int.add_zero, Int.emod_eq_of_lt (by omega) (by omega)]
    omega
   ·rw [Bool.or_eq_true]
    right
    unfold asks
    simp only [Bool.and_eq_true, beq_iff_eq, decide_eq_true_eq]
    rw [hport, hage]
    refine ⟨⟨by omega, by omega⟩, ?_⟩
    rw [show ((h.port.toNat : Nat) : Int) = h.port by omega, show ((s.toNat : Nat) : Int) = s by omega, hk4]
    unfold wrap
    split
    ·rw [Int.emod_eq_of_lt (by omega) (by omega)]; omega
    ·rw [show h.port + (h.age + 1) = (h.port + h.age + 1 - n) + n by omega, Int.add_emod_right, Int.emod_eq_of_lt (by omega) (by omega)]
  have hq : ∀ i, i < n → F i = false → (ndAt xs i).md = 3 → (i : Int) ≠ s := fun i hi hc h3 e =>
   hk i hi hc ((says_iff I B i hi hc).2 ⟨h3, by rw [V.ps i hi hc h3]; exact e.symm⟩)
  have he : 0 < e := by
   have := hq j V.jn V.jc V.ja
   have hj := V.jn
   rw [V.de]
   unfold dist
   split <;> omega
  have hr : relay n h2 l = (h2, Fr.none) := by
   unfold relay
   rw [if_neg (by omega)]
   cases firstCs l with
   | none => rfl
   | some p => simp only; rw [if_pos (by omega)]
  rw [hr] at hO ⊢
  refine next_none B V _ he (fun i hi hc h3 => ?_) hO fun hy => Or.inl ⟨hhold, fun i hi hc => ?_, ?_, ?_, fun i hi hc h3 => ?_⟩
  ·have := K.ct i hi hc h3; omega
  ·rw [hags i hi hc, if_neg (hk i hi hc)]
  ·rw [hage]; omega
  ·rw [hage, hport, hk4]
   unfold nx wrap
   split <;> split <;> split <;> omega
  ·obtain ⟨h1, h2⟩ := hy i hi hc h3
   have := K.ct i hi hc h1
   rw [hage]
   omega
theorem stepB (B : Base n F h xs) (I : In n F xs l) (V : InvB n F h xs j s e) (hO : Out n F xs (hub n h l).2 ys) :
  Next n F xs ys (hub n h l).1 (hub n h l).2 j s e := by
 rcases V.kind with K | K
 ·exact earlyB B I V K hO
 ·exact heldB B I V K hO
end
end Wm
end Go.Proofs.YtgiojagdmglinaaGreatDoor
namespace Go.Proofs.YtgiojagdmglinaaGreatDoor
namespace Ru
open Sw
def F (c v : Int) (i : Nat) : Bool := Vw.fnode c v i
theorem F_one (c v : Int) (i j : Nat) (hi : F c v i = true) (hj : F c v j = true) : i = j := by
 unfold F Vw.fnode at hi hj
 simp at hi hj
 omega
def hon (n : Nat) (xs : List Nd) : List Fr := (List.range n).map fun i => Wm.say n (ndAt xs i)
theorem hon_at (n : Nat) (xs : List Nd) (p : Nat) (hp : p < n) : frAt (hon n xs) p = Wm.say n (ndAt xs p) := by
 unfold frAt hon
 simp [hp]
theorem one_say {n p : Nat} (h8 : n ≤ 8) (hp : p < n) {y : Nd} (hy : Wm.NRight n p y) : Port.one p (Wire.put (Wm.say n y)) = Wm.say n y := by
 have hz : Port.one p (Wire.put Fr.none) = Fr.none := by
  have : Wire.put Fr.none = ⟨#[]⟩ := by decide +kernel
  rw [this]
  unfold Port.one
  have h2 : Wire.get ⟨#[]⟩ = Fr.none := rfl
  rw [h2]
  split <;> rfl
 rcases Wm.say_fit hy with e | e | e <;> rw [e]
 ·exact hz
 ·have hr : (⟨1, (p : Int)⟩ : Fr).right = true := by rw [Fr.right_iff]; simp; omega
  unfold Port.one
  rw [Wire.get_put hr, if_pos ⟨hr, rfl⟩]
 ·have hr : (⟨2, (p : Int)⟩ : Fr).right = true := by rw [Fr.right_iff]; simp; omega
  unfold Port.one
  rw [Wire.get_put hr, if_pos ⟨hr, rfl⟩]
theorem sp_at (x : Wd) (s : ByteArray) (n p : Nat) (hp : p < n) : (Tk.sp x s n).getD p ByteArray.empty = if Vw.fnode x.c x.v p then s else Wire.put (Wm.say x.n (ndAt x.nodes p)) := by
 unfold Tk.sp
 simp [hp]
theorem in0_own {x : Wd} (hx : x.Right) (s : ByteArray) (p : Nat) (hp : p < x.n) (hf : F x.c x.v p = false) : frAt (Port.take (Tk.sp x s x.n) x.n) p = Wm.say x.n (ndAt x.nodes p) := by
 have hf' : Vw.fnode x.c x.v p = false := hf
 rw [Port.take_at _ _ _ hp, sp_at x s x.n p hp, hf']
 exact one_say hx.hi hp (hx.nd p hp)
theorem pick_self (a : Fr) : Port.pick a a = a := by unfold Port.pick; split <;> rfl
theorem in0_all {x : Wd} (hx : x.Right) (s : ByteArray) (hc : x.c ≠ 1) : Port.take (Tk.sp x s x.n) x.n = hon x.n x.nodes := by
 have hf : ∀ p, F x.c x.v p = false := fun p => by unfold F Vw.fnode; simp [hc]
 apply List.ext_getElem?
 intro p
 by_cases hp : p < x.n
 ·rw [Port.frAt_eq (l := Port.take (Tk.sp x s x.n) x.n) (by rw [Port.take_len]; exact hp), Port.frAt_eq (l := hon x.n x.nodes) (by simp [hon]; exact hp), in0_own hx s p hp (hf p), hon_at _ _ _ hp]
 ·rw [List.getElem?_eq_none (by rw [Port.take_len]; omega), List.getElem?_eq_none (by simp [hon]; omega)]
def ins (x : Wd) (ch : Ch) : List Fr := if x.c = 2 then in0 x ch else Port.both (in0 x ch) (in1 x ch)
theorem ins_in {x : Wd} (hx : x.Right) (ch : Ch) : Wm.In x.n (F x.c x.v) x.nodes (ins x ch) := by
 have f0 := Port.take_fit (Tk.sp x ch.b0 x.n) x.n
 have f1 := Port.take_fit (Tk.sp x ch.b1 x.n) x.n
 unfold ins
 split
 ·exact ⟨fun p hp hf => in0_own hx ch.b0 p hp hf, f0.any, f0.len⟩
 ·have fb := Port.both_fit f0 f1
  refine ⟨fun p hp hf => ?_, fb.any, fb.len⟩
  show frAt (Port.both (Port.take (Tk.sp x ch.b0 x.n) x.n) (Port.take (Tk.sp x ch.b1 x.n) x.n)) p = _
  rw [Port.both_at f0.len f1.len p hp, in0_own hx ch.b0 p hp hf, in0_own hx ch.b1 p hp hf, pick_self]
theorem hubs_free {x : Wd} (ch : Ch) (hc : x.c ≠ 2) : r0 x ch = Wm.hub x.n x.h0 (ins x ch) ∧ r1 x ch = Wm.hub x.n x.h0 (ins x ch) := by
 have d0 : ∀ i, Flt.delivers x.c x.v ch i = true := fun i => by unfold Flt.delivers Flt.fhub; simp [hc]
 unfold r0 r1 Tk.rel0 Tk.rel1 Link.l0 Link.l1 Link.hs ins
 rw [d0 0, d0 1, if_neg hc]
 exact ⟨rfl, rfl⟩
theorem hubs_one {x : Wd} (hx : x.Right) (ch : Ch) (hh : x.h1 = x.h0) : r0 x ch = Wm.hub x.n x.h0 (ins x ch) ∧ r1 x ch = Wm.hub x.n x.h0 (ins x ch) := by
 by_cases hc : x.c = 2
 ·have e0 : in0 x ch = hon x.n x.nodes := in0_all hx ch.b0 (by omega)
  have e1 : in1 x ch = hon x.n x.nodes := in0_all hx ch.b1 (by omega)
  have hb : ∀ d, Link.l0 d (in0 x ch) (in1 x ch) = ins x ch := fun d => by unfold Link.l0 ins; rw [if_pos hc, e0, e1, Port.both_self]; split <;> rfl
  have hb1 : ∀ d, Link.l1 d (in0 x ch) (in1 x ch) = ins x ch := fun d => by unfold Link.l1 ins; rw [if_pos hc, e0, e1, Port.both_self]; split <;> rfl
  have hs : ∀ d, Link.hs d x.h0 x.h1 = x.h0 := fun d => by unfold Link.hs; rw [hh]; split <;> rfl
  unfold r0 r1 Tk.rel0 Tk.rel1
  rw [hb, hb1, hs]
  exact ⟨rfl, rfl⟩
 ·exact hubs_free ch hc
theorem hears {x : Wd} (hx : x.Right) (ch : Ch) (i : Nat) {f : Fr} (hf : Wm.Sent x.n f) : Wm.Hears f (Tk.heard x.n x.c x.v ch 0 i f) (Tk.heard x.n x.c x.v ch 1 i f) := by
 have h0 := Tk.heard_cases hx.hi x.c x.v ch 0 i hf
 have h1 := Tk.heard_cases hx.hi x.c x.v ch 1 i hf
 have hne : ¬ (Flt.fhub x.c x.v 0 = true ∧ Flt.fhub x.c x.v 1 = true) := by
  unfold Flt.fhub
  simp
  omega
 refine ⟨?_, ?_, ?_⟩
 ·rcases h0 with e | ⟨_, e⟩
  ·exact Or.inl e
  ·exact Or.inr e
 ·rcases h1 with e | ⟨_, e⟩
  ·exact Or.inl e
  ·exact Or.inr e
 ·rcases h0 with e | ⟨a, e⟩
  ·exact Or.inl e
  ·rcases h1 with e1 | ⟨b, e1⟩
   ·exact Or.inr e1
   ·exact absurd ⟨a, b⟩ hne
def node1 (n : Nat) (power : List Int) (tick : Int) (i : Nat) (y : Nd) (f : Fr) : Nd :=
 if y.md = 0 then (if power.getD i 0 ≤ tick then Wm.become y 1 else y) else Wm.act1 n y f
theorem nodes_one {x : Wd} (hx : x.Right) (ch : Ch) (hr : r1 x ch = r0 x ch) (i : Nat) (hi : i < x.n) : ndAt (nxt x ch).nodes i = node1 x.n x.power x.tick i (ndAt x.nodes i) (r0 x ch).2 := by
 show ndAt (nds x ch) i = _
 rw [nds_at hx ch i hi, hr]
 unfold Tk.one node1
 split
 ·rfl
 ·rw [Wm.act_hears x.n (ndAt x.nodes i) (hears hx ch i (hubs_right hx ch).1.2)]
theorem out_one {x : Wd} (hx : x.Right) (ch : Ch) (hr : r1 x ch = r0 x ch) : Wm.Out x.n (F x.c x.v) x.nodes (r0 x ch).2 (nxt x ch).nodes := by
 intro i hi _
 rw [nodes_one hx ch hr i hi]
 unfold node1
 constructor
 ·intro h
  rw [if_pos h]
  split
  ·exact Or.inr rfl
  ·exact Or.inl h
 ·intro h
  rw [if_neg h]
end Ru
end Go.Proofs.YtgiojagdmglinaaGreatDoor
namespace Go.Proofs.YtgiojagdmglinaaGreatDoor
namespace Ru
open Sw
theorem wat_c (x : Wd) (l : List Ch) : ∀ k, (wat x l k).c = x.c
 | 0 => rfl
 | k + 1 => wat_c x l k
theorem wat_v (x : Wd) (l : List Ch) : ∀ k, (wat x l k).v = x.v
 | 0 => rfl
 | k + 1 => wat_v x l k
theorem wat_succ (x : Wd) (l : List Ch) (k : Nat) : wat x l (k + 1) = nxt (wat x l k) (l.getD k default) := rfl
theorem wat_tick (x : Wd) (l : List Ch) (h0 : x.tick = 0) : ∀ k, k ≤ 1000 → (wat x l k).tick = k
 | 0, _ => h0
 | k + 1, hk => by
  show Wm.up (wat x l k).tick Wm.mostCount = _
  rw [wat_tick x l h0 k (by omega)]
  unfold Wm.up Wm.mostCount
  rw [Int.max_eq_left (by omega), if_pos (by omega)]
  omega
theorem wat_hubs {x : Wd} (hx : x.Right) (l : List Ch) (hh : x.h1 = x.h0) : ∀ k, (wat x l k).h1 = (wat x l k).h0
 | 0 => hh
 | k + 1 => by
  have h := hubs_one (wat_right hx l k) (l.getD k default) (wat_hubs hx l hh k)
  show (r1 (wat x l k) _).1 = (r0 (wat x l k) _).1
  rw [h.1, h.2]
theorem wat_r1 {x : Wd} (hx : x.Right) (l : List Ch) (hh : x.h1 = x.h0) (k : Nat) : r1 (wat x l k) (l.getD k default) = r0 (wat x l k) (l.getD k default) := by
 have h := hubs_one (wat_right hx l k) (l.getD k default) (wat_hubs hx l hh k)
 rw [h.1, h.2]
theorem wat_r0 {x : Wd} (hx : x.Right) (l : List Ch) (hh : x.h1 = x.h0) (k : Nat) : r0 (wat x l k) (l.getD k default) = Wm.hub x.n (wat x l k).h0 (ins (wat x l k) (l.getD k default)) := by
 have h := hubs_one (wat_right hx l k) (l.getD k default) (wat_hubs hx l hh k)
 rw [h.1, wat_n]
structure Ma where
 t : Int
 h : Hb
 xs : List Nd
def Ma.next (n : Nat) (power : List Int) (m : Ma) : Ma := ⟨Wm.up m.t Wm.mostCount, (Wm.hub n m.h (hon n m.xs)).1, (List.range n).map fun i => node1 n power m.t i (ndAt m.xs i) (Wm.hub n m.h (hon n m.xs)).2⟩
def Ma.said (n : Nat) (m : Ma) : Fr := (Wm.hub n m.h (hon n m.xs)).2
def Ma.run (n : Nat) (power : List Int) (m : Ma) : Nat → Ma
 | 0 => m
 | k + 1 => (Ma.run n power m k).next n power
def first (n : Nat) : Ma := ⟨0, Wm.fresh n, (List.range n).map Nw.off⟩
theorem ins_free {x : Wd} (hx : x.Right) (ch : Ch) (hc : x.c ≠ 1) : ins x ch = hon x.n x.nodes := by
 have e0 : in0 x ch = hon x.n x.nodes := in0_all hx ch.b0 hc
 have e1 : in1 x ch = hon x.n x.nodes := in0_all hx ch.b1 hc
 unfold ins
 rw [e0, e1, Port.both_self]
 split <;> rfl
theorem wat_ma {x : Wd} (hx : x.Right) (l : List Ch) (hh : x.h1 = x.h0) (hc : x.c ≠ 1) : ∀ k, (⟨(wat x l k).tick, (wat x l k).h0, (wat x l k).nodes⟩ : Ma) = Ma.run x.n x.power ⟨x.tick, x.h0, x.nodes⟩ k
 | 0 => rfl
 | k + 1 => by
  have hr := wat_right hx l k
  have ih := wat_ma hx l hh hc k
  have hi : ins (wat x l k) (l.getD k default) = hon x.n (wat x l k).nodes := by
   rw [ins_free hr _ (by rw [wat_c]; exact hc), wat_n]
  have e0 := wat_r0 hx l hh k
  rw [hi] at e0
  show _ = (Ma.run x.n x.power _ k).next x.n x.power
  rw [← ih]
  unfold Ma.next
  show (⟨Wm.up (wat x l k).tick Wm.mostCount, (r0 (wat x l k) (l.getD k default)).1, nds (wat x l k) (l.getD k default)⟩ : Ma) = _
  rw [e0]
  congr 1
  apply List.ext_getElem?
  intro i
  have hln : (nds (wat x l k) (l.getD k default)).length = x.n := by rw [nds_len, hr.nl, wat_n]
  by_cases hi : i < x.n
  ·have h1 := nodes_one hr (l.getD k default) (wat_r1 hx l hh k) i (by rw [wat_n]; exact hi)
   have h2 : ndAt (nds (wat x l k) (l.getD k default)) i = _ := h1
   rw [wat_n, wat_power, e0] at h2
   rw [List.getElem?_map, List.getElem?_range hi, List.getElem?_eq_getElem (by omega)]
   unfold ndAt at h2 ⊢
   rw [List.getD_eq_getElem?_getD, List.getElem?_eq_getElem (by omega)] at h2
   simp only [Option.getD_some, Option.map_some] at h2 ⊢
   rw [h2]
  ·rw [List.getElem?_eq_none (by omega), List.getElem?_eq_none (by simp; omega)]
theorem wat_said {x : Wd} (hx : x.Right) (l : List Ch) (hh : x.h1 = x.h0) (hc : x.c ≠ 1) (k : Nat) : (r0 (wat x l k) (l.getD k default)).2 = Ma.said x.n (Ma.run x.n x.power ⟨x.tick, x.h0, x.nodes⟩ k) := by
 have hr := wat_right hx l k
 have hi : ins (wat x l k) (l.getD k default) = hon x.n (wat x l k).nodes := by
  rw [ins_free hr _ (by rw [wat_c]; exact hc), wat_n]
 have e0 := wat_r0 hx l hh k
 rw [hi] at e0
 rw [e0, ← wat_ma hx l hh hc k]
 rfl
theorem wat_nodes {x : Wd} (hx : x.Right) (l : List Ch) (hh : x.h1 = x.h0) (hc : x.c ≠ 1) (k : Nat) : (wat x l k).nodes = (Ma.run x.n x.power ⟨x.tick, x.h0, x.nodes⟩ k).xs := by rw [← wat_ma hx l hh hc k]
end Ru
end Go.Proofs.YtgiojagdmglinaaGreatDoor
namespace Go.Proofs.YtgiojagdmglinaaGreatDoor
open Go.RowKit
namespace Tl
theorem byteInfo : (Tryz.prog.info? 5).map (fun i => (i.zero, i.size, i.bytes)) = some (some (.int .u8 0), 1, 1) := by kernel_rfl
def Own (W : World) (B : Nat) (v : Value) (l : List UInt8) : Prop := W.ownsRow B 5 1 v l.length (Lib.byteCells l)
theorem strCells_of (l : List UInt8) : Lib.strCells ⟨l.toArray⟩ = Lib.byteCells l := rfl
set_option maxHeartbeats 1000000 in
theorem small1_calls (w : World) : Calls Tryz.prog 134 #[.int .i64 1] w fun e w' => e = .returned (.string ⟨#[49]⟩) ∧ w = w' := by
 go_enter Tryz.func134, Tryz.ntmps134
 go_wp2_with fail
 go_ret
 exact ⟨by congr 2, rfl⟩
set_option maxHeartbeats 1000000 in
theorem small2_calls (w : World) : Calls Tryz.prog 134 #[.int .i64 2] w fun e w' => e = .returned (.string ⟨#[50]⟩) ∧ w = w' := by
 go_enter Tryz.func134, Tryz.ntmps134
 go_wp2_with fail
 go_ret
 exact ⟨by congr 2, rfl⟩
set_option maxHeartbeats 1000000 in
theorem small23_calls (w : World) : Calls Tryz.prog 134 #[.int .i64 23] w fun e w' => e = .returned (.string ⟨#[50, 51]⟩) ∧ w = w' := by
 go_enter Tryz.func134, Tryz.ntmps134
 go_wp2_with fail
 go_ret
 exact ⟨by congr 2, rfl⟩
end Tl
end Go.Proofs.YtgiojagdmglinaaGreatDoor
