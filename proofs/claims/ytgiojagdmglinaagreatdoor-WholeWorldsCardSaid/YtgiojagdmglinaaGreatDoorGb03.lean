/-
  Part 3 of a merged text.
-/
import Derived.Test.YtgiojagdmglinaaGreatDoorGb02
import Derived.Test.YtgiojagdmglinaaGreatDoorProg
import Derived.IntWalk
import Derived.Deep.QuietTactic
import Derived.BigQuiet
import Derived.Test.YtgiojagdmglinaaGreatDoorGb01
import Derived.Test.YtgiojagdmglinaaGreatDoorGb00
import Derived.Deep.RegionHeld3
import Derived.MapKept
import Derived.Carry
set_option linter.unusedVariables false
set_option linter.unusedSimpArgs false
set_option maxRecDepth 100000
namespace Go.Proofs.YtgiojagdmglinaaGreatDoor
open Go.RowKit
namespace Tal
def clamp (c l m : Int) : Int := if c < l then l else min c m
set_option maxHeartbeats 400000 in
theorem clamp_calls (c l m : Int) (w : World) : Calls Tryz.prog 62 #[.int .i64 c, .int .i64 l, .int .i64 m] w fun e w' => e = .returned (.int .i64 (clamp c l m)) ∧ w = w' := by
 unfold clamp
 by_cases h : c < l
 ·rw [if_pos h]
  have g : decide (c < l) = true := decide_eq_true h
  go_enter Tryz.func62, Tryz.ntmps62
  go_wp2_with fail
  go_ret
  exact ⟨rfl, rfl⟩
 ·rw [if_neg h]
  have g : decide (c < l) = false := decide_eq_false h
  by_cases k : c ≤ m
  ·rw [Int.min_eq_left k]
   go_enter Tryz.func62, Tryz.ntmps62
   go_wp2_with fail
   go_ret
   exact ⟨rfl, rfl⟩
  ·have k2 : m ≤ c := by omega
   rw [Int.min_eq_right k2]
   go_enter Tryz.func62, Tryz.ntmps62
   go_wp2_with fail
   go_ret
   exact ⟨rfl, rfl⟩
set_option maxHeartbeats 400000 in
theorem down_calls (c : Int) (w : World) (h0 : 0 ≤ c) (h1 : c ≤ 1073741824) : Calls Tryz.prog 125 #[.int .i64 c] w fun e w' => e = .returned (.int .i64 (max c 1 - 1)) ∧ w = w' := by
 by_cases k : 1 ≤ c
 ·rw [Int.max_eq_left k]
  go_enter Tryz.func125, Tryz.ntmps125
  go_wp2_with fail
  go_ret
  exact ⟨rfl, rfl⟩
 ·have k2 : c ≤ 1 := by omega
  rw [Int.max_eq_right k2]
  go_enter Tryz.func125, Tryz.ntmps125
  go_wp2_with fail
  go_ret
  exact ⟨rfl, rfl⟩
set_option maxHeartbeats 400000 in
theorem up_calls (c m : Int) (w : World) (h0 : 0 ≤ c) (hm : 0 ≤ m ∧ m ≤ 1073741824) (hc : c ≤ m) : Calls Tryz.prog 38 #[.int .i64 c, .int .i64 m] w fun e w' => e = .returned (.int .i64 (Wm.up c m)) ∧ w = w' := by
 obtain ⟨hm0, hm1⟩ := hm
 unfold Wm.up
 rw [Int.max_eq_left h0]
 by_cases h : c < m
 ·rw [if_pos h]
  have g : decide (c < m) = true := decide_eq_true h
  have k : c + 1 ≤ m := by omega
  go_enter Tryz.func38, Tryz.ntmps38
  go_wp2_with fail
  go_ret
  exact ⟨rfl, rfl⟩
 ·rw [if_neg h]
  have g : decide (c < m) = false := decide_eq_false h
  obtain rfl : c = m := by omega
  have k : c ≤ c := Int.le_refl c
  go_enter Tryz.func38, Tryz.ntmps38
  go_wp2_with fail
  go_ret
  exact ⟨rfl, rfl⟩
end Tal
end Go.Proofs.YtgiojagdmglinaaGreatDoor
namespace Go.Proofs.YtgiojagdmglinaaGreatDoor
open Go.RowKit
namespace Tal
set_option maxHeartbeats 400000 in
theorem at_calls (n p a : Int) (w : World) (hn : 1 ≤ n ∧ n ≤ 1000) (hp : 0 ≤ p ∧ p ≤ 1000) (ha : 0 ≤ a ∧ a ≤ 1000) : Calls Tryz.prog 156 #[.int .i64 n, .int .i64 p, .int .i64 a] w fun e w' => e = .returned (.int .i64 ((p + a) % n)) ∧ w = w' := by
 obtain ⟨hn0, hn1⟩ := hn
 obtain ⟨hp0, hp1⟩ := hp
 obtain ⟨ha0, ha1⟩ := ha
 have h0 : 0 ≤ p + a := by omega
 have e : (p + a).tmod n = (p + a) % n := Int.tmod_eq_emod_of_nonneg h0
 have g0 : 0 ≤ (p + a) % n := Int.emod_nonneg _ (by omega)
 have g1 : (p + a) % n < n := Int.emod_lt_of_pos _ (by omega)
 have z : ¬ n = 0 := by omega
 go_enter Tryz.func156, Tryz.ntmps156
 go_wp2_with fail
 go_ret
 exact ⟨rfl, rfl⟩
end Tal
end Go.Proofs.YtgiojagdmglinaaGreatDoor
namespace Go.Proofs.YtgiojagdmglinaaGreatDoor
open Go.RowKit
def Whole (w : World) (A : Option Addr) (n : Nat) (l : List Int) : Prop := Lies w A n 1 (l.map fun x => [Value.int .i64 x])
theorem Whole.below {w W : World} {A : Option Addr} {n : Nat} {l : List Int} (h : Whole w A n l) (hb : Below w.heap.size w W) : Whole W A n l := Lies.below h hb
theorem Whole.len {w : World} {A : Option Addr} {n : Nat} {l : List Int} (h : Whole w A n l) : l.length = n := by have := Lies.len h; simpa using this
theorem Whole.at_ {w : World} {A : Option Addr} {n : Nat} {l : List Int} (h : Whole w A n l) {q : Nat} (hq : q < n) : ∃ b off, A = some ⟨b, off, none⟩ ∧ b < w.heap.size ∧ w.cell? ⟨b, off + q, none⟩ = some (.int .i64 (l.getD q 0)) := by
 obtain ⟨b, off, e, hlt, hc⟩ := Lies.at_ h (by omega)
 refine ⟨b, off, e, hlt, ?_⟩
 have hl : q < l.length := by rw [h.len]; exact hq
 have := hc q [.int .i64 (l.getD q 0)] (by rw [List.getElem?_map, List.getD_eq_getElem?_getD, List.getElem?_eq_getElem hl]; rfl) 0 _ rfl
 rwa [Nat.mul_one] at this
structure Ch where
 b0 : ByteArray
 b1 : ByteArray
 at_ : Option Addr
 np : Nat
 cap : Nat
 ports : List Int
 link : Int
def Ch.cells (x : Ch) : List Value := [.string x.b0, .string x.b1, .slice x.at_ x.np x.cap, .int .i64 x.link]
def Ch.val (x : Ch) : Value := .agg #[.string x.b0, .string x.b1, .slice x.at_ x.np x.cap, .int .i64 x.link]
structure Ch.There (w : World) (x : Ch) : Prop where
 s0 : x.b0.size ≤ maxLen
 s1 : x.b1.size ≤ maxLen
 ports : Whole w x.at_ x.np x.ports
 most : x.np ≤ maxLen
theorem Ch.There.below {w W : World} {x : Ch} (h : Ch.There w x) (hb : Below w.heap.size w W) : Ch.There W x := ⟨h.s0, h.s1, h.ports.below hb, h.most⟩
namespace Flt
def fhub (c v : Int) (i : Nat) : Bool := c == 2 && v == (i : Int)
def delivers (c v : Int) (x : Ch) (i : Nat) : Bool := x.link == 0 || !fhub c v i
def out (c v : Int) (x : Ch) (h p : Nat) (f : Fr) : ByteArray :=
 if fhub c v h = true ∧ p < x.np then (if x.ports.getD p 0 = 1 then ⟨#[]⟩ else if x.ports.getD p 0 = 2 then Wire.put Fr.noise else Wire.put f) else Wire.put f
set_option maxHeartbeats 400000 in
theorem hub_calls (c v i : Int) (w : World) :
  Calls Tryz.prog 99 #[.agg #[.int .i64 c, .int .i64 v], .int .i64 i] w fun e w' => e = .returned (.bool (c == 2 && v == i)) ∧ Below w.heap.size w w' := by
 go_enter Tryz.func99, Tryz.ntmps99
 go_wp2_with fail
 all_goals (go_ret; exact ⟨by simp_all, (Below.refl _ _).alloc (Nat.le_refl _) _⟩)
set_option maxHeartbeats 1000000 in
theorem lines_calls (c v : Int) (x : Ch) (i : Nat) (f : Fr) (w : World) :
  Calls Tryz.prog 67 #[.agg #[.int .i64 c, .int .i64 v], .agg #[.string x.b0, .string x.b1, .slice x.at_ x.np x.cap, .int .i64 x.link], .int .i64 i, .agg #[.int .i64 f.k, .int .i64 f.i]] w
   fun e w' => e = .returned (.agg #[.string (if Vw.fnode c v i then x.b0 else Wire.put f), .string (if Vw.fnode c v i then x.b1 else Wire.put f)]) ∧ Below w.heap.size w w' := by
 have kn := fun W => Vw.fnode_calls c v i W
 have kp := fun W => Wire.put_calls f W
 have hf : (c == 1 && v == (i : Int)) = Vw.fnode c v i := rfl
 rw [hf] at kn
 generalize Vw.fnode c v i = q at *
 generalize Wire.put f = s at *
 have KN := Lib.hid kn
 have KP := Lib.hid kp
 clear kn kp hf
 obtain ⟨b0, b1, A, np, cap, ports, link⟩ := x
 obtain ⟨fk, fi⟩ := f
 simp only at KP ⊢
 cases q
 all_goals
  go_enter Tryz.func67, Tryz.ntmps67
  go_wp2_with fail
  refine (KN.out _).mono ?_
  rintro e w1 ⟨rfl, b⟩
  have r0 := (((Kit.Row.new w #[.int .i64 c, .int .i64 v] 24).alloc (.cells #[.string b0, .string b1, .slice A np cap, .int .i64 link] 53)).alloc (.cells #[.int .i64 fk, .int .i64 fi] 45)).alloc (.cells #[.string ⟨#[]⟩, .string ⟨#[]⟩] 51) |>.below b
  have r1 := ((Kit.Row.newAt (w.alloc (.cells #[.int .i64 c, .int .i64 v] 24)) #[.string b0, .string b1, .slice A np cap, .int .i64 link] 53 (w.heap.size + 1) (by simp)).alloc (.cells #[.int .i64 fk, .int .i64 fi] 45)).alloc (.cells #[.string ⟨#[]⟩, .string ⟨#[]⟩] 51) |>.below b
  have r2 := (Kit.Row.newAt ((w.alloc (.cells #[.int .i64 c, .int .i64 v] 24)).alloc (.cells #[.string b0, .string b1, .slice A np cap, .int .i64 link] 53)) #[.int .i64 fk, .int .i64 fi] 45 (w.heap.size + 1 + 1) (by simp)).alloc (.cells #[.string ⟨#[]⟩, .string ⟨#[]⟩] 51) |>.below b
  have r3 := (Kit.Row.newAt (((w.alloc (.cells #[.int .i64 c, .int .i64 v] 24)).alloc (.cells #[.string b0, .string b1, .slice A np cap, .int .i64 link] 53)).alloc (.cells #[.int .i64 fk, .int .i64 fi] 45)) #[.string ⟨#[]⟩, .string ⟨#[]⟩] 51 (w.heap.size + 1 + 1 + 1) (by simp)) |>.below b
  have HB := Lib.hid (Kit.chain ((((((Below.refl w.heap.size w).alloc (Nat.le_refl _) (.cells #[.int .i64 c, .int .i64 v] 24)).alloc (by simp) (.cells #[.string b0, .string b1, .slice A np cap, .int .i64 link] 53)).alloc (by simp; omega) (.cells #[.int .i64 fk, .int .i64 fi] 45)).alloc (by simp; omega) (.cells #[.string ⟨#[]⟩, .string ⟨#[]⟩] 51))) b)
  clear b r0
  have c0 := r1.at_ 0 _ rfl
  have c1 := r1.at_ 1 _ rfl
  have d0 := r2.at_ 0 _ rfl
  have d1 := r2.at_ 1 _ rfl
  have g0 := r3.at_ 0 _ rfl
  have g1 := r3.at_ 1 _ rfl
  have z0 := r3.free 0 (by simp)
  have z1 := r3.free 1 (by simp)
  have hlt := r3.lt
  have R3 := Lib.hid r3
  clear r1 r2 r3
  go_wp2_with fail
  first
  | (refine (KP.out _).mono ?_
     rintro e w2 ⟨rfl, b⟩
     have r4 := R3.out.below b
     have HB2 := Lib.hid (HB.out.trans (b.mono HB.out.size))
     clear b c0 c1 d0 d1 g0 g1 z0 z1 hlt
     have g0 := r4.at_ 0 _ rfl
     have g1 := r4.at_ 1 _ rfl
     have z0 := r4.free 0 (by simp)
     have z1 := r4.free 1 (by simp)
     have hlt := r4.lt
     go_wp2_with fail
     have r5 := (r4.set 0 (.string s) (by simp)).set 1 (.string s) (by simp)
     have p0 := r5.at_ 0 (.string s) rfl
     have p1 := r5.at_ 1 (.string s) rfl
     clear r4 r5
     refine bodyPost_ret (v := .agg #[.string s, .string s]) (by simp [results, Tryz.results67, go_sem, p0, p1, hlt]) rfl ⟨rfl, ?_⟩
     exact (HB2.out.setCell (by simp; omega) _).setCell (by simp; omega) _)
  | (have r5 := (R3.out.set 0 (.string b0) (by simp)).set 1 (.string b1) (by simp)
     have p0 := r5.at_ 0 (.string b0) rfl
     have p1 := r5.at_ 1 (.string b1) rfl
     clear r5
     refine bodyPost_ret (v := .agg #[.string b0, .string b1]) (by simp [results, Tryz.results67, go_sem, p0, p1, hlt]) rfl ⟨rfl, ?_⟩
     exact (HB.out.setCell (by simp; omega) _).setCell (by simp; omega) _)
end Flt
end Go.Proofs.YtgiojagdmglinaaGreatDoor
namespace Go.Proofs.YtgiojagdmglinaaGreatDoor
open Go.RowKit
namespace Flt
set_option maxHeartbeats 2000000 in
theorem out_calls (c v : Int) (x : Ch) (h p : Nat) (f : Fr) (w : World) (hx : x.There w) :
  Calls Tryz.prog 119 #[.agg #[.int .i64 c, .int .i64 v], .agg #[.string x.b0, .string x.b1, .slice x.at_ x.np x.cap, .int .i64 x.link], .int .i64 h, .int .i64 p, .agg #[.int .i64 f.k, .int .i64 f.i]] w
   fun e w' => e = .returned (.string (out c v x h p f)) ∧ Below w.heap.size w w' := by
 have kh := fun W => hub_calls c v h W
 have kp := fun W => Wire.put_calls f W
 have kz := fun W => Wire.put_calls Fr.noise W
 have hf : (c == 2 && v == (h : Int)) = fhub c v h := rfl
 rw [hf] at kh
 have ho : out c v x h p f = if fhub c v h = true ∧ p < x.np then (if x.ports.getD p 0 = 1 then ⟨#[]⟩ else if x.ports.getD p 0 = 2 then Wire.put Fr.noise else Wire.put f) else Wire.put f := rfl
 have hports := hx.ports
 have hmost := hx.most
 generalize out c v x h p f = y at *
 generalize fhub c v h = q at *
 generalize Wire.put f = s at *
 simp only [Fr.noise] at kz ho
 generalize Wire.put ⟨3, 0⟩ = z at *
 have KH := Lib.hid kh
 have KP := Lib.hid kp
 have KZ := Lib.hid kz
 have HO := Lib.hid ho
 clear kh kp kz hf ho hx
 obtain ⟨b0, b1, A, np, cap, ports, link⟩ := x
 obtain ⟨fk, fi⟩ := f
 simp only at KP HO hports hmost ⊢
 have HPT := Lib.hid hports
 have hp0 : decide ((p : Int) ≥ 0) = true := decide_eq_true (by omega)
 clear hports
 unfold maxLen at hmost
 have W3 : Below w.heap.size w (((w.alloc (.cells #[.int .i64 c, .int .i64 v] 24)).alloc (.cells #[.string b0, .string b1, .slice A np cap, .int .i64 link] 53)).alloc (.cells #[.int .i64 fk, .int .i64 fi] 45)) := Kit.alloc3 ..
 cases q with
 | false =>
  obtain rfl : s = y := (HO.out.trans (if_neg (by simp))).symm
  clear HO HPT
  go_enter Tryz.func119, Tryz.ntmps119
  go_wp2_with fail
  refine (KH.out _).mono ?_
  rintro e w1 ⟨rfl, bw⟩
  have r1 := (Kit.Row.newAt (w.alloc (.cells #[.int .i64 c, .int .i64 v] 24)) #[.string b0, .string b1, .slice A np cap, .int .i64 link] 53 (w.heap.size + 1) (by simp)).alloc (.cells #[.int .i64 fk, .int .i64 fi] 45) |>.below bw
  have r2 := (Kit.Row.newAt ((w.alloc (.cells #[.int .i64 c, .int .i64 v] 24)).alloc (.cells #[.string b0, .string b1, .slice A np cap, .int .i64 link] 53)) #[.int .i64 fk, .int .i64 fi] 45 (w.heap.size + 1 + 1) (by simp)) |>.below bw
  have HB := Lib.hid (Kit.chain W3 bw)
  clear bw
  have c2 := r1.at_ 2 (.slice A np cap) rfl
  have d0 := r2.at_ 0 (.int .i64 fk) rfl
  have d1 := r2.at_ 1 (.int .i64 fi) rfl
  clear r1 r2
  go_wp2_with fail
  refine (KP.out _).mono ?_
  rintro e w2 ⟨rfl, bw⟩
  have HB2 := Lib.hid (HB.out.trans (bw.mono HB.out.size))
  clear bw
  go_wp2_with fail
  go_ret
  exact ⟨rfl, HB2.out⟩
 | true =>
  by_cases hpn : p < np
  ·have hl : decide ((p : Int) < (np : Int)) = true := decide_eq_true (by omega)
   obtain ⟨b, off, rfl, hb, m0⟩ := HPT.out.at_ hpn
   have ho := HO.out
   rw [if_pos ⟨rfl, hpn⟩] at ho
   clear HO HPT
   generalize ports.getD p 0 = g at *
   have M0 := Lib.hid m0
   have HBB := Lib.hid hb
   clear m0 hb
   by_cases h1 : g = 1
   ·obtain rfl : (⟨#[]⟩ : ByteArray) = y := (ho.trans (if_pos h1)).symm
    clear ho
    have g1 : (g == 1) = true := by rw [h1]; rfl
    clear h1
    go_enter Tryz.func119, Tryz.ntmps119
    go_wp2_with fail
    refine (KH.out _).mono ?_
    rintro e w1 ⟨rfl, bw⟩
    have r1 := (Kit.Row.newAt (w.alloc (.cells #[.int .i64 c, .int .i64 v] 24)) #[.string b0, .string b1, .slice (some ⟨b, off, none⟩) np cap, .int .i64 link] 53 (w.heap.size + 1) (by simp)).alloc (.cells #[.int .i64 fk, .int .i64 fi] 45) |>.below bw
    have r2 := (Kit.Row.newAt ((w.alloc (.cells #[.int .i64 c, .int .i64 v] 24)).alloc (.cells #[.string b0, .string b1, .slice (some ⟨b, off, none⟩) np cap, .int .i64 link] 53)) #[.int .i64 fk, .int .i64 fi] 45 (w.heap.size + 1 + 1) (by simp)) |>.below bw
    have HB := Lib.hid (Kit.chain W3 bw)
    clear bw
    have c2 := r1.at_ 2 (.slice (some ⟨b, off, none⟩) np cap) rfl
    have d0 := r2.at_ 0 (.int .i64 fk) rfl
    have d1 := r2.at_ 1 (.int .i64 fi) rfl
    clear r1 r2
    have m1 := (HB.out.cell (p := ⟨b, off + p, none⟩) HBB.out).trans M0.out
    go_wp2_with fail
    go_ret
    exact ⟨rfl, HB.out⟩
   ·rw [if_neg h1] at ho
    have g1 : (g == 1) = false := beq_eq_false_iff_ne.2 h1
    by_cases h2 : g = 2
    ·obtain rfl : z = y := (ho.trans (if_pos h2)).symm
     clear ho
     have g2 : (g == 2) = true := by rw [h2]; rfl
     clear h1 h2
     go_enter Tryz.func119, Tryz.ntmps119
     go_wp2_with fail
     refine (KH.out _).mono ?_
     rintro e w1 ⟨rfl, bw⟩
     have r1 := (Kit.Row.newAt (w.alloc (.cells #[.int .i64 c, .int .i64 v] 24)) #[.string b0, .string b1, .slice (some ⟨b, off, none⟩) np cap, .int .i64 link] 53 (w.heap.size + 1) (by simp)).alloc (.cells #[.int .i64 fk, .int .i64 fi] 45) |>.below bw
     have r2 := (Kit.Row.newAt ((w.alloc (.cells #[.int .i64 c, .int .i64 v] 24)).alloc (.cells #[.string b0, .string b1, .slice (some ⟨b, off, none⟩) np cap, .int .i64 link] 53)) #[.int .i64 fk, .int .i64 fi] 45 (w.heap.size + 1 + 1) (by simp)) |>.below bw
     have HB := Lib.hid (Kit.chain W3 bw)
     clear bw
     have c2 := r1.at_ 2 (.slice (some ⟨b, off, none⟩) np cap) rfl
     have d0 := r2.at_ 0 (.int .i64 fk) rfl
     have d1 := r2.at_ 1 (.int .i64 fi) rfl
     clear r1 r2
     have m1 := (HB.out.cell (p := ⟨b, off + p, none⟩) HBB.out).trans M0.out
     go_wp2_with fail
     refine (KZ.out _).mono ?_
     rintro e w2 ⟨rfl, bz⟩
     have HB2 := Lib.hid (HB.out.trans (bz.mono HB.out.size))
     clear bz
     go_wp2_with fail
     go_ret
     exact ⟨rfl, HB2.out⟩
    ·obtain rfl : s = y := (ho.trans (if_neg h2)).symm
     clear ho
     have g2 : (g == 2) = false := beq_eq_false_iff_ne.2 h2
     clear h1 h2
     go_enter Tryz.func119, Tryz.ntmps119
     go_wp2_with fail
     refine (KH.out _).mono ?_
     rintro e w1 ⟨rfl, bw⟩
     have r1 := (Kit.Row.newAt (w.alloc (.cells #[.int .i64 c, .int .i64 v] 24)) #[.string b0, .string b1, .slice (some ⟨b, off, none⟩) np cap, .int .i64 link] 53 (w.heap.size + 1) (by simp)).alloc (.cells #[.int .i64 fk, .int .i64 fi] 45) |>.below bw
     have r2 := (Kit.Row.newAt ((w.alloc (.cells #[.int .i64 c, .int .i64 v] 24)).alloc (.cells #[.string b0, .string b1, .slice (some ⟨b, off, none⟩) np cap, .int .i64 link] 53)) #[.int .i64 fk, .int .i64 fi] 45 (w.heap.size + 1 + 1) (by simp)) |>.below bw
     have HB := Lib.hid (Kit.chain W3 bw)
     clear bw
     have c2 := r1.at_ 2 (.slice (some ⟨b, off, none⟩) np cap) rfl
     have d0 := r2.at_ 0 (.int .i64 fk) rfl
     have d1 := r2.at_ 1 (.int .i64 fi) rfl
     clear r1 r2
     have m1 := (HB.out.cell (p := ⟨b, off + p, none⟩) HBB.out).trans M0.out
     go_wp2_with fail
     refine (KP.out _).mono ?_
     rintro e w2 ⟨rfl, bw⟩
     have HB2 := Lib.hid (HB.out.trans (bw.mono HB.out.size))
     clear bw
     go_wp2_with fail
     go_ret
     exact ⟨rfl, HB2.out⟩
  ·have hl : decide ((p : Int) < (np : Int)) = false := decide_eq_false (by omega)
   obtain rfl : s = y := (HO.out.trans (if_neg (fun h => hpn h.2))).symm
   clear HO HPT
   go_enter Tryz.func119, Tryz.ntmps119
   go_wp2_with fail
   refine (KH.out _).mono ?_
   rintro e w1 ⟨rfl, bw⟩
   have r1 := (Kit.Row.newAt (w.alloc (.cells #[.int .i64 c, .int .i64 v] 24)) #[.string b0, .string b1, .slice A np cap, .int .i64 link] 53 (w.heap.size + 1) (by simp)).alloc (.cells #[.int .i64 fk, .int .i64 fi] 45) |>.below bw
   have r2 := (Kit.Row.newAt ((w.alloc (.cells #[.int .i64 c, .int .i64 v] 24)).alloc (.cells #[.string b0, .string b1, .slice A np cap, .int .i64 link] 53)) #[.int .i64 fk, .int .i64 fi] 45 (w.heap.size + 1 + 1) (by simp)) |>.below bw
   have HB := Lib.hid (Kit.chain W3 bw)
   clear bw
   have c2 := r1.at_ 2 (.slice A np cap) rfl
   have d0 := r2.at_ 0 (.int .i64 fk) rfl
   have d1 := r2.at_ 1 (.int .i64 fi) rfl
   clear r1 r2
   go_wp2_with fail
   refine (KP.out _).mono ?_
   rintro e w2 ⟨rfl, bw⟩
   have HB2 := Lib.hid (HB.out.trans (bw.mono HB.out.size))
   clear bw
   go_wp2_with fail
   go_ret
   exact ⟨rfl, HB2.out⟩
end Flt
end Go.Proofs.YtgiojagdmglinaaGreatDoor
namespace Go.Proofs.YtgiojagdmglinaaGreatDoor
open Go.RowKit
namespace Flt
set_option maxHeartbeats 1000000 in
theorem delivers_calls (c v : Int) (x : Ch) (w : World) :
  Calls Tryz.prog 70 #[.agg #[.int .i64 c, .int .i64 v], .agg #[.string x.b0, .string x.b1, .slice x.at_ x.np x.cap, .int .i64 x.link]] w
   fun e w' => e = .returned (.agg #[.bool (delivers c v x 0), .bool (delivers c v x 1)]) ∧ Below w.heap.size w w' := by
 have kh0 := fun W => hub_calls c v 0 W
 have kh1 := fun W => hub_calls c v 1 W
 have e0 : delivers c v x 0 = (x.link == 0 || !(c == 2 && v == 0)) := rfl
 have e1 : delivers c v x 1 = (x.link == 0 || !(c == 2 && v == 1)) := rfl
 generalize (c == 2 && v == 0) = q0 at *
 generalize (c == 2 && v == 1) = q1 at *
 obtain ⟨b0, b1, A, np, cap, ports, link⟩ := x
 simp only at e0 e1 ⊢
 generalize delivers c v ⟨b0, b1, A, np, cap, ports, link⟩ 0 = y0 at *
 generalize delivers c v ⟨b0, b1, A, np, cap, ports, link⟩ 1 = y1 at *
 have KH0 := Lib.hid kh0
 have KH1 := Lib.hid kh1
 clear kh0 kh1
 cases hz : link == 0 with
 | true =>
  rw [hz] at e0 e1
  have E0 : Hid (true = y0) := Lib.hid (by rw [e0]; rfl)
  have E1 : Hid (true = y1) := Lib.hid (by rw [e1]; rfl)
  clear e0 e1
  go_enter Tryz.func70, Tryz.ntmps70
  go_wp2_with fail
  have R0 : Hid (Kit.Row (((w.alloc (.cells #[.int .i64 c, .int .i64 v] 24)).alloc (.cells #[.string b0, .string b1, .slice A np cap, .int .i64 link] 53)).alloc (.cells #[.bool false, .bool false] 116)) w.heap.size [.int .i64 c, .int .i64 v]) := Lib.hid (((Kit.Row.new w _ _).alloc _).alloc _)
  have R1 : Hid (Kit.Row (((w.alloc (.cells #[.int .i64 c, .int .i64 v] 24)).alloc (.cells #[.string b0, .string b1, .slice A np cap, .int .i64 link] 53)).alloc (.cells #[.bool false, .bool false] 116)) (w.heap.size + 1) [.string b0, .string b1, .slice A np cap, .int .i64 link]) := Lib.hid ((Kit.Row.newAt _ _ _ _ (by simp)).alloc _)
  have R2 : Hid (Kit.Row (((w.alloc (.cells #[.int .i64 c, .int .i64 v] 24)).alloc (.cells #[.string b0, .string b1, .slice A np cap, .int .i64 link] 53)).alloc (.cells #[.bool false, .bool false] 116)) (w.heap.size + 1 + 1) [.bool false, .bool false]) := Lib.hid (Kit.Row.newAt _ _ _ _ (by simp))
  have HB : Hid (Below w.heap.size w (((w.alloc (.cells #[.int .i64 c, .int .i64 v] 24)).alloc (.cells #[.string b0, .string b1, .slice A np cap, .int .i64 link] 53)).alloc (.cells #[.bool false, .bool false] 116))) := Lib.hid (Kit.alloc3 ..)
  generalize (((w.alloc (.cells #[.int .i64 c, .int .i64 v] 24)).alloc (.cells #[.string b0, .string b1, .slice A np cap, .int .i64 link] 53)).alloc (.cells #[.bool false, .bool false] 116)) = w2 at *
  go_loopw [5, 6] (fun _ vi wr => (vi = .int .i64 0 ∧ Hid (Kit.Row wr (w.heap.size + 1 + 1) [.bool false, .bool false]) ∨ vi = .int .i64 1 ∧ Hid (Kit.Row wr (w.heap.size + 1 + 1) [.bool y0, .bool false]) ∨ vi = .int .i64 2 ∧ Hid (Kit.Row wr (w.heap.size + 1 + 1) [.bool y0, .bool y1])) ∧ Hid (Kit.Row wr w.heap.size [.int .i64 c, .int .i64 v]) ∧ Hid (Kit.Row wr (w.heap.size + 1) [.string b0, .string b1, .slice A np cap, .int .i64 link]) ∧ Hid (Below w.heap.size w wr)) (fun _ vi _ => 2 - (intOf vi).toNat)
  case atStart => exact ⟨Or.inl ⟨rfl, R2⟩, R0, R1, HB⟩
  case round =>
   clear R0 R1 R2 HB
   obtain ⟨hc, R0, R1, HB⟩ := hrel
   rcases hc with ⟨rfl, R2⟩ | ⟨rfl, R2⟩ | ⟨rfl, R2⟩
   ·have c3 := R1.out.at_ 3 (.int .i64 link) rfl
    have d0 := R0.out.at_ 0 (.int .i64 c) rfl
    have d1 := R0.out.at_ 1 (.int .i64 v) rfl
    have x0 := R2.out.at_ 0 (.bool false) rfl
    have f0 := R2.out.free 0 (by simp)
    have lt2 := R2.out.lt
    have RS := Lib.hid ((R2.out.set 0 (.bool true) (by simp)).cast (show _ = [.bool y0, .bool false] by rw [← E0.out]; rfl))
    have R0S := Lib.hid (R0.out.far (w.heap.size + 1 + 1) 0 (.bool true) (by omega))
    have R1S := Lib.hid (R1.out.far (w.heap.size + 1 + 1) 0 (.bool true) (by omega))
    have HBS := Lib.hid (HB.out.setCell (p := ⟨w.heap.size + 1 + 1, 0, none⟩) (show w.heap.size ≤ w.heap.size + 1 + 1 by omega) (.bool true))
    clear R0 R1 R2 HB
    go_wp2_with fail
    go_roundw
    case rel => exact ⟨Or.inr (Or.inl ⟨by go_num, RS⟩), R0S, R1S, HBS⟩
    case measure => simp [intOf]
   ·have c3 := R1.out.at_ 3 (.int .i64 link) rfl
    have d0 := R0.out.at_ 0 (.int .i64 c) rfl
    have d1 := R0.out.at_ 1 (.int .i64 v) rfl
    have x1 := R2.out.at_ 1 (.bool false) rfl
    have f1 := R2.out.free 1 (by simp)
    have lt2 := R2.out.lt
    have RS := Lib.hid ((R2.out.set 1 (.bool true) (by simp)).cast (show _ = [.bool y0, .bool y1] by rw [← E1.out]; rfl))
    have R0S := Lib.hid (R0.out.far (w.heap.size + 1 + 1) 1 (.bool true) (by omega))
    have R1S := Lib.hid (R1.out.far (w.heap.size + 1 + 1) 1 (.bool true) (by omega))
    have HBS := Lib.hid (HB.out.setCell (p := ⟨w.heap.size + 1 + 1, 1, none⟩) (show w.heap.size ≤ w.heap.size + 1 + 1 by omega) (.bool true))
    clear R0 R1 R2 HB
    go_wp2_with fail
    go_roundw
    case rel => exact ⟨Or.inr (Or.inr ⟨by go_num, RS⟩), R0S, R1S, HBS⟩
    case measure => simp [intOf]
   ·have x0 := R2.out.at_ 0 (.bool y0) rfl
    have x1 := R2.out.at_ 1 (.bool y1) rfl
    have f0 := R2.out.free 0 (by simp)
    have f1 := R2.out.free 1 (by simp)
    have hlt := R2.out.lt
    go_wp2_with fail
    have r5 := (R2.out.set 0 (.bool y0) (by simp)).set 1 (.bool y1) (by simp)
    have p0 := r5.at_ 0 (.bool y0) rfl
    have p1 := r5.at_ 1 (.bool y1) rfl
    clear r5
    refine bodyPost_ret (v := .agg #[.bool y0, .bool y1]) (by simp [results, Tryz.results70, go_sem, p0, p1, hlt]) rfl ⟨rfl, ?_⟩
    exact (HB.out.setCell (by simp; omega) _).setCell (by simp; omega) _
 | false =>
  rw [hz] at e0 e1
  have E0 : Hid ((!q0) = y0) := Lib.hid (by rw [e0]; rfl)
  have E1 : Hid ((!q1) = y1) := Lib.hid (by rw [e1]; rfl)
  clear e0 e1
  go_enter Tryz.func70, Tryz.ntmps70
  go_wp2_with fail
  have R0 : Hid (Kit.Row (((w.alloc (.cells #[.int .i64 c, .int .i64 v] 24)).alloc (.cells #[.string b0, .string b1, .slice A np cap, .int .i64 link] 53)).alloc (.cells #[.bool false, .bool false] 116)) w.heap.size [.int .i64 c, .int .i64 v]) := Lib.hid (((Kit.Row.new w _ _).alloc _).alloc _)
  have R1 : Hid (Kit.Row (((w.alloc (.cells #[.int .i64 c, .int .i64 v] 24)).alloc (.cells #[.string b0, .string b1, .slice A np cap, .int .i64 link] 53)).alloc (.cells #[.bool false, .bool false] 116)) (w.heap.size + 1) [.string b0, .string b1, .slice A np cap, .int .i64 link]) := Lib.hid ((Kit.Row.newAt _ _ _ _ (by simp)).alloc _)
  have R2 : Hid (Kit.Row (((w.alloc (.cells #[.int .i64 c, .int .i64 v] 24)).alloc (.cells #[.string b0, .string b1, .slice A np cap, .int .i64 link] 53)).alloc (.cells #[.bool false, .bool false] 116)) (w.heap.size + 1 + 1) [.bool false, .bool false]) := Lib.hid (Kit.Row.newAt _ _ _ _ (by simp))
  have HB : Hid (Below w.heap.size w (((w.alloc (.cells #[.int .i64 c, .int .i64 v] 24)).alloc (.cells #[.string b0, .string b1, .slice A np cap, .int .i64 link] 53)).alloc (.cells #[.bool false, .bool false] 116))) := Lib.hid (Kit.alloc3 ..)
  generalize (((w.alloc (.cells #[.int .i64 c, .int .i64 v] 24)).alloc (.cells #[.string b0, .string b1, .slice A np cap, .int .i64 link] 53)).alloc (.cells #[.bool false, .bool false] 116)) = w2 at *
  go_loopw [5, 6] (fun _ vi wr => (vi = .int .i64 0 ∧ Hid (Kit.Row wr (w.heap.size + 1 + 1) [.bool false, .bool false]) ∨ vi = .int .i64 1 ∧ Hid (Kit.Row wr (w.heap.size + 1 + 1) [.bool y0, .bool false]) ∨ vi = .int .i64 2 ∧ Hid (Kit.Row wr (w.heap.size + 1 + 1) [.bool y0, .bool y1])) ∧ Hid (Kit.Row wr w.heap.size [.int .i64 c, .int .i64 v]) ∧ Hid (Kit.Row wr (w.heap.size + 1) [.string b0, .string b1, .slice A np cap, .int .i64 link]) ∧ Hid (Below w.heap.size w wr)) (fun _ vi _ => 2 - (intOf vi).toNat)
  case atStart => exact ⟨Or.inl ⟨rfl, R2⟩, R0, R1, HB⟩
  case round =>
   clear R0 R1 R2 HB
   obtain ⟨hc, R0, R1, HB⟩ := hrel
   rcases hc with ⟨rfl, R2⟩ | ⟨rfl, R2⟩ | ⟨rfl, R2⟩
   ·have c3 := R1.out.at_ 3 (.int .i64 link) rfl
    have d0 := R0.out.at_ 0 (.int .i64 c) rfl
    have d1 := R0.out.at_ 1 (.int .i64 v) rfl
    have x0 := R2.out.at_ 0 (.bool false) rfl
    have f0 := R2.out.free 0 (by simp)
    have lt2 := R2.out.lt
    go_wp2_with fail
    refine (KH0.out _).mono ?_
    rintro e w8 ⟨rfl, b8⟩
    have r0 := R0.out.below b8
    have r1 := R1.out.below b8
    have r2 := R2.out.below b8
    have hb := HB.out.trans (b8.mono HB.out.size)
    clear b8 R0 R1 R2 HB c3 d0 d1 x0 f0 lt2
    have x0 := r2.at_ 0 (.bool false) rfl
    have f0 := r2.free 0 (by simp)
    have lt2 := r2.lt
    have RS := Lib.hid ((r2.set 0 (.bool (!q0)) (by simp)).cast (show _ = [.bool y0, .bool false] by rw [← E0.out]; rfl))
    have R0S := Lib.hid (r0.far (w.heap.size + 1 + 1) 0 (.bool (!q0)) (by omega))
    have R1S := Lib.hid (r1.far (w.heap.size + 1 + 1) 0 (.bool (!q0)) (by omega))
    have HBS := Lib.hid (hb.setCell (p := ⟨w.heap.size + 1 + 1, 0, none⟩) (show w.heap.size ≤ w.heap.size + 1 + 1 by omega) (.bool (!q0)))
    clear r0 r1 r2 hb
    go_wp2_with fail
    go_roundw
    case rel => exact ⟨Or.inr (Or.inl ⟨by go_num, RS⟩), R0S, R1S, HBS⟩
    case measure => simp [intOf]
   ·have c3 := R1.out.at_ 3 (.int .i64 link) rfl
    have d0 := R0.out.at_ 0 (.int .i64 c) rfl
    have d1 := R0.out.at_ 1 (.int .i64 v) rfl
    have x1 := R2.out.at_ 1 (.bool false) rfl
    have f1 := R2.out.free 1 (by simp)
    have lt2 := R2.out.lt
    go_wp2_with fail
    refine (KH1.out _).mono ?_
    rintro e w8 ⟨rfl, b8⟩
    have r0 := R0.out.below b8
    have r1 := R1.out.below b8
    have r2 := R2.out.below b8
    have hb := HB.out.trans (b8.mono HB.out.size)
    clear b8 R0 R1 R2 HB c3 d0 d1 x1 f1 lt2
    have x1 := r2.at_ 1 (.bool false) rfl
    have f1 := r2.free 1 (by simp)
    have lt2 := r2.lt
    have RS := Lib.hid ((r2.set 1 (.bool (!q1)) (by simp)).cast (show _ = [.bool y0, .bool y1] by rw [← E1.out]; rfl))
    have R0S := Lib.hid (r0.far (w.heap.size + 1 + 1) 1 (.bool (!q1)) (by omega))
    have R1S := Lib.hid (r1.far (w.heap.size + 1 + 1) 1 (.bool (!q1)) (by omega))
    have HBS := Lib.hid (hb.setCell (p := ⟨w.heap.size + 1 + 1, 1, none⟩) (show w.heap.size ≤ w.heap.size + 1 + 1 by omega) (.bool (!q1)))
    clear r0 r1 r2 hb
    go_wp2_with fail
    go_roundw
    case rel => exact ⟨Or.inr (Or.inr ⟨by go_num, RS⟩), R0S, R1S, HBS⟩
    case measure => simp [intOf]
   ·have x0 := R2.out.at_ 0 (.bool y0) rfl
    have x1 := R2.out.at_ 1 (.bool y1) rfl
    have f0 := R2.out.free 0 (by simp)
    have f1 := R2.out.free 1 (by simp)
    have hlt := R2.out.lt
    go_wp2_with fail
    have r5 := (R2.out.set 0 (.bool y0) (by simp)).set 1 (.bool y1) (by simp)
    have p0 := r5.at_ 0 (.bool y0) rfl
    have p1 := r5.at_ 1 (.bool y1) rfl
    clear r5
    refine bodyPost_ret (v := .agg #[.bool y0, .bool y1]) (by simp [results, Tryz.results70, go_sem, p0, p1, hlt]) rfl ⟨rfl, ?_⟩
    exact (HB.out.setCell (by simp; omega) _).setCell (by simp; omega) _
def manyOf (n c : Int) : Int := if c = 0 then 1 else if c = 1 then n else if c = 2 then 2 else 0
set_option maxHeartbeats 400000 in
theorem many_calls (n c : Int) (w : World) : Calls Tryz.prog 85 #[.int .i64 n, .int .i64 c] w fun e w' => e = .returned (.int .i64 (manyOf n c)) ∧ w = w' := by
 unfold manyOf
 by_cases h0 : c = 0
 ·rw [if_pos h0]
  have g0 : (c == 0) = true := by rw [h0]; rfl
  clear h0
  go_enter Tryz.func85, Tryz.ntmps85
  go_wp2_with fail
  go_ret
  exact ⟨rfl, rfl⟩
 ·rw [if_neg h0]
  have g0 : (c == 0) = false := beq_eq_false_iff_ne.2 h0
  clear h0
  by_cases h1 : c = 1
  ·rw [if_pos h1]
   have g1 : (c == 1) = true := by rw [h1]; rfl
   clear h1
   go_enter Tryz.func85, Tryz.ntmps85
   go_wp2_with fail
   go_ret
   exact ⟨rfl, rfl⟩
  ·rw [if_neg h1]
   have g1 : (c == 1) = false := beq_eq_false_iff_ne.2 h1
   clear h1
   by_cases h2 : c = 2
   ·rw [if_pos h2]
    have g2 : (c == 2) = true := by rw [h2]; rfl
    clear h2
    go_enter Tryz.func85, Tryz.ntmps85
    go_wp2_with fail
    go_ret
    exact ⟨rfl, rfl⟩
   ·rw [if_neg h2]
    have g2 : (c == 2) = false := beq_eq_false_iff_ne.2 h2
    clear h2
    go_enter Tryz.func85, Tryz.ntmps85
    go_wp2_with fail
    go_ret
    exact ⟨rfl, rfl⟩
end Flt
end Go.Proofs.YtgiojagdmglinaaGreatDoor
namespace Go.Proofs.YtgiojagdmglinaaGreatDoor
open Go.RowKit Go.MapKept
namespace Mp
variable {P : Program}
theorem run_find {k : TypeId} {d : TypeDesc} {key : Value} {es : List MapEntry} {r : Option (Nat × Value)} (hd : P.underlying k = some d) (hf : Instr.findNow d key es 0 = some r) (w : World) : (Instr.findKey k key es).run P w = .ok r w := by
 simp [Instr.findKey, run_underlying hd, hf, Result.andThen]
theorem put_new (w : World) (a b : Obj) : { w.alloc a with heap := (w.alloc a).heap.setIfInBounds w.heap.size b } = w.alloc b := by
 show World.mk _ _ _ _ _ = World.mk _ _ _ _ _
 congr 1
 apply Array.ext_getElem?
 intro i
 show ((w.heap.push a).setIfInBounds w.heap.size b)[i]? = (w.heap.push b)[i]?
 rw [Array.getElem?_setIfInBounds, Array.getElem?_push, Array.getElem?_push]
 by_cases h : i = w.heap.size
 ·subst h; simp
 ·rw [if_neg (fun e => h e.symm), if_neg h, if_neg h]
theorem insert_new {t k e : TypeId} {d : TypeDesc} (ht : P.underlying t = some (.map k e)) (hd : P.underlying k = some d) (w : World) (es : Array MapEntry) (c : Nat) (key val : Value) (hk : IsKey d key) (hf : Instr.findNow d key es.toList 0 = some none) :
  (Instr.mapUpdate t (.map (some w.heap.size)) key val).run P (w.alloc (.map es c)) = .ok () (w.alloc (.map (es.push ⟨key, val, c⟩) (c + 1))) := by
 have hb : (w.alloc (.map es c)).heap[w.heap.size]? = some (.map es c) := (by simp : (w.heap.push (.map es c))[w.heap.size]? = some (.map es c))
 simp [Instr.mapUpdate, run_underlying ht, MapKept.run_getObj_map hb, run_checkKey hd hk, run_find hd hf, run_setObj_map _ hb, Result.andThen]
 exact put_new w _ _
theorem look {t k e : TypeId} {d : TypeDesc} (ht : P.underlying t = some (.map k e)) (hd : P.underlying k = some d) {w : World} {r : Nat} {es : Array MapEntry} {c : Nat} (hb : w.heap[r]? = some (.map es c)) {key v : Value} {i : Nat} (hk : IsKey d key) (hf : Instr.findNow d key es.toList 0 = some (some (i, v))) :
  (Instr.lookup t (.map (some r)) key false).run P w = .ok v w := by
 simp [Instr.lookup, run_underlying ht, MapKept.run_getObj_map hb, run_checkKey hd hk, run_find hd hf, Result.andThen]
end Mp
end Go.Proofs.YtgiojagdmglinaaGreatDoor
