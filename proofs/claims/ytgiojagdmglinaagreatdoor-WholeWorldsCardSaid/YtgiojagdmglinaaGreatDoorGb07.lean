/-
  Part 7 of a merged text.
-/
import Derived.Test.YtgiojagdmglinaaGreatDoorGb06
import Derived.Test.YtgiojagdmglinaaGreatDoorGb05
import Derived.Test.YtgiojagdmglinaaGreatDoorGb00
import Derived.Deep.RegionWith
import Derived.BigRegion
import Derived.Test.YtgiojagdmglinaaGreatDoorGb03
set_option linter.unusedVariables false
set_option linter.unusedSimpArgs false
set_option maxRecDepth 100000
namespace Go.Proofs.YtgiojagdmglinaaGreatDoor
open Go.RowKit
namespace Act
def cells (n : Int) (x : Nd) (p q : Fr) (s : Bool) : List Value := [.int .i64 x.id, .int .i64 x.md, .int .i64 x.ct, .int .i64 x.ps, .int .i64 n, .int .i64 p.k, .int .i64 p.i, .int .i64 q.k, .int .i64 q.i, .bool s]
def Ac (w : World) (b : Nat) (n : Int) (x : Nd) (p q : Fr) (s : Bool) : Prop := Kit.Row w b (cells n x p q s)
theorem Ac.below {w w' : World} {b : Nat} {n : Int} {x : Nd} {p q : Fr} {s : Bool} (h : Ac w b n x p q s) (hb : Below w.heap.size w w') : Ac w' b n x p q s := Kit.Row.below h hb
theorem Ac.lt {w : World} {b : Nat} {n : Int} {x : Nd} {p q : Fr} {s : Bool} (h : Ac w b n x p q s) : b < w.heap.size := Kit.Row.lt h
def Left (w : World) (b : Nat) (n : Int) (x : Nd) (p q : Fr) (s : Bool) (e : Ending) (w' : World) : Prop := e = .returned (.tuple #[]) ∧ Ac w' b n x p q s ∧ Below b w w'
theorem Left.chain {w w1 w2 : World} {b : Nat} {n : Int} {x : Nd} {p q : Fr} {s : Bool} {e : Ending} (h : Left w1 b n x p q s e w2) (hb : Below b w w1) : Left w b n x p q s e w2 := ⟨h.1, h.2.1, hb.trans h.2.2⟩
theorem become_ac (b : Nat) (n m : Int) (x : Nd) (p q : Fr) (s : Bool) (w : World) (h : Ac w b n x p q s) :
  Calls Tryz.prog 146 #[.pointer (some ⟨b, 0, none⟩), .int .i64 m] w (Left w b n (Wm.become x m) p q s) := by
 refine (Act0.become_calls b m w (h.at_ 1 _ rfl) (h.at_ 2 _ rfl) (h.at_ 3 _ rfl) (h.free 1 (by simp [cells])) (h.free 2 (by simp [cells])) (h.free 3 (by simp [cells]))).mono ?_
 rintro e w' ⟨rfl, rfl⟩
 refine ⟨rfl, ((((Kit.Row.set h 1 _ (by simp [cells])).set 2 _ (by simp [cells])).set 3 _ (by simp [cells])).cast rfl), ?_⟩
 have hl := h.lt
 exact (((Below.refl _ _).setCell (by simp) _).setCell (by simp) _).setCell (by simp) _
theorem wait_ac (b : Nat) (n : Int) (x : Nd) (p q : Fr) (s : Bool) (w : World) (h : Ac w b n x p q s) (h0 : 0 ≤ x.ct) (h1 : x.ct ≤ 1073741824) :
  Calls Tryz.prog 147 #[.pointer (some ⟨b, 0, none⟩)] w (Left w b n (Wm.later x) p q s) := by
 refine (Act0.wait_calls b w (h.at_ 2 _ rfl) (h.free 2 (by simp [cells])) h0 h1).mono ?_
 rintro e w' ⟨rfl, rfl⟩
 refine ⟨rfl, ((Kit.Row.set h 2 _ (by simp [cells])).cast rfl), ?_⟩
 exact (Below.refl _ _).setCell (by simp) _
theorem join_ac (b : Nat) (n : Nat) (j : Int) (x : Nd) (p q : Fr) (s : Bool) (w : World) (h : Ac w b n x p q s) (h3 : 3 ≤ n) (h8 : n ≤ 8) (hj : 0 ≤ j ∧ j < n) :
  Calls Tryz.prog 145 #[.pointer (some ⟨b, 0, none⟩), .int .i64 j] w (Left w b n (Wm.join n x j) p q s) := by
 refine (Act0.join_calls b n j w (h.at_ 1 _ rfl) (h.at_ 2 _ rfl) (h.at_ 3 _ rfl) (h.at_ 4 _ rfl) (h.free 1 (by simp [cells])) (h.free 2 (by simp [cells])) (h.free 3 (by simp [cells])) (by omega) (by omega) hj).mono ?_
 rintro e w' ⟨rfl, rfl⟩
 refine ⟨rfl, (((((Kit.Row.set h 1 _ (by simp [cells])).set 2 _ (by simp [cells])).set 3 _ (by simp [cells])).set 3 _ (by simp [cells])).cast rfl), ?_⟩
 exact ((((Below.refl _ _).setCell (by simp) _).setCell (by simp) _).setCell (by simp) _).setCell (by simp) _
set_option maxHeartbeats 1000000 in
theorem listen_calls (b n i : Nat) (x : Nd) (p q : Fr) (w : World) (h : Ac w b n x p q (Wm.cs n x)) (h3 : 3 ≤ n) (h8 : n ≤ 8) (hx : Wm.NRight n i x) (hp : Wm.Sent n p) (hq : Wm.Sent n q) :
  Calls Tryz.prog 131 #[.pointer (some ⟨b, 0, none⟩)] w (Left w b n (Wm.listen n x p q) p q (Wm.cs n x)) := by
 have ki := Hear.info_calls p q
 have ko := Hear.other_calls p q x.id
 have kb := fun W (H : Ac W b n x p q (Wm.cs n x)) => become_ac b n 2 x p q (Wm.cs n x) W H
 have kw := fun W (H : Ac W b n x p q (Wm.cs n x)) => wait_ac b n x p q (Wm.cs n x) W H hx.ct.1 hx.ct.2
 have kj := fun j (hj : 0 ≤ j ∧ j < (n : Int)) W (H : Ac W b n x p q (Wm.cs n x)) => join_ac b n j x p q (Wm.cs n x) W H h3 h8 hj
 have hin := fun j => Wm.hears_in hp hq (fun f => f.k == 2) rfl (j := j)
 have hon := fun j => Wm.hears_in hp hq (fun f => f.k == 1 && f.i != x.id) rfl (j := j)
 have hlt := h.lt
 generalize hy : Wm.listen n x p q = y
 have HY := Lib.hid hy
 have KJ := Lib.hid kj
 have KB := Lib.hid kb
 have KW := Lib.hid kw
 have KI := Lib.hid ki
 have KO := Lib.hid ko
 have H := Lib.hid h
 have HIN := Lib.hid hin
 have HON := Lib.hid hon
 clear kj kb kw hx hp hq h3 h8 ki ko hy hin hon
 have c5 := h.at_ 5 _ rfl
 have c6 := h.at_ 6 _ rfl
 have c7 := h.at_ 7 _ rfl
 have c8 := h.at_ 8 _ rfl
 clear h
 go_enter Tryz.func131, Tryz.ntmps131
 go_wp2_with fail
 refine (KI.out _).mono ?_
 rintro e w1 ⟨rfl, b1⟩
 have h1 := H.out.below b1
 have B1 := Lib.hid (b1.mono (Nat.le_of_lt hlt))
 have H1 := Lib.hid h1
 clear c5 c6 c7 c8 b1
 have c0 := h1.at_ 0 _ rfl
 have c5 := h1.at_ 5 _ rfl
 have c6 := h1.at_ 6 _ rfl
 have c7 := h1.at_ 7 _ rfl
 have c8 := h1.at_ 8 _ rfl
 clear h1
 go_wp2_with fail
 go_region_held3 (fun w' => w'.cell? ⟨b, 0, none⟩ = some (.int .i64 x.id) ∧ w'.cell? ⟨b, 5, none⟩ = some (.int .i64 p.k) ∧ w'.cell? ⟨b, 6, none⟩ = some (.int .i64 p.i) ∧ w'.cell? ⟨b, 7, none⟩ = some (.int .i64 q.k) ∧ w'.cell? ⟨b, 8, none⟩ = some (.int .i64 q.i)) (go_keep) ((go_at_call 144; refine (KO.out _).mono ?_; rintro e w2 ⟨rfl, b2⟩; replace c0 := Kit.cell_below b2 c0; replace c5 := Kit.cell_below b2 c5; replace c6 := Kit.cell_below b2 c6; replace c7 := Kit.cell_below b2 c7; replace c8 := Kit.cell_below b2 c8; have b3 := (Below.refl _ w1).drew.trans b2; have H2 := Lib.hid (H1.out.below b3); have B2 := Lib.hid (B1.out.trans (b3.mono (Nat.le_of_lt H1.out.lt))); clear b2 b3))
 clear c0 c5 c6 c7 c8
 cases hi : Wm.info p q with
 | some j =>
  have e0 : Wm.listen n x p q = Wm.join n x j := by simp [Wm.listen, hi]
  have KJ1 := Lib.hid (KJ.out j (HIN.out j hi))
  obtain rfl := HY.out.symm.trans e0
  clear e0 hi HY
  go_wp2_with fail
  refine (KJ1.out _ H2.out).mono ?_
  rintro e w3 ⟨rfl, h3, b3⟩
  go_wp2_with fail
  exact Great.bodyPost_end0 rfl rfl ⟨rfl, h3, B2.out.trans b3⟩
 | none =>
  have c9 := H2.out.at_ 9 _ rfl
  cases hs : (Wm.other x.id p q).isSome with
  | true =>
   have e0 : Wm.listen n x p q = Wm.become x 2 := by simp [Wm.listen, hi, hs]
   obtain rfl := HY.out.symm.trans e0
   clear e0 hi HY
   go_wp2_with fail
   refine (KB.out _ H2.out).mono ?_
   rintro e w3 ⟨rfl, h3, b3⟩
   go_wp2_with fail
   exact Great.bodyPost_end0 rfl rfl ⟨rfl, h3, B2.out.trans b3⟩
  | false =>
   cases hc : Wm.cs n x with
   | true =>
    have e0 : Wm.listen n x p q = Wm.become x 2 := by simp [Wm.listen, hi, hs, hc]
    obtain rfl := HY.out.symm.trans e0
    rw [hc] at c9
    have HC := Lib.hid hc
    clear e0 hi HY hc
    go_wp2_with fail
    refine (KB.out _ H2.out).mono ?_
    rintro e w3 ⟨rfl, h3, b3⟩
    go_wp2_with fail
    exact Great.bodyPost_end0 rfl rfl ⟨rfl, HC.out ▸ h3, B2.out.trans b3⟩
   | false =>
    have e0 : Wm.listen n x p q = Wm.later x := by simp [Wm.listen, hi, hs, hc]
    obtain rfl := HY.out.symm.trans e0
    rw [hc] at c9
    have HC := Lib.hid hc
    clear e0 hi HY hc
    go_wp2_with fail
    refine (KW.out _ H2.out).mono ?_
    rintro e w3 ⟨rfl, h3, b3⟩
    go_wp2_with fail
    exact Great.bodyPost_end0 rfl rfl ⟨rfl, HC.out ▸ h3, B2.out.trans b3⟩
set_option maxHeartbeats 1000000 in
theorem cold_calls (b n i : Nat) (x : Nd) (p q : Fr) (w : World) (h : Ac w b n x p q (Wm.cs n x)) (h3 : 3 ≤ n) (h8 : n ≤ 8) (hx : Wm.NRight n i x) (hp : Wm.Sent n p) (hq : Wm.Sent n q) :
  Calls Tryz.prog 132 #[.pointer (some ⟨b, 0, none⟩)] w (Left w b n (Wm.cold n x p q) p q (Wm.cs n x)) := by
 have ki := Hear.info_calls p q
 have ko := Hear.other_calls p q x.id
 have kb := fun W (H : Ac W b n x p q (Wm.cs n x)) => become_ac b n 2 x p q (Wm.cs n x) W H
 have kw := fun W (H : Ac W b n x p q (Wm.cs n x)) => wait_ac b n x p q (Wm.cs n x) W H hx.ct.1 hx.ct.2
 have kj := fun j (hj : 0 ≤ j ∧ j < (n : Int)) W (H : Ac W b n x p q (Wm.cs n x)) => join_ac b n j x p q (Wm.cs n x) W H h3 h8 hj
 have hin := fun j => Wm.hears_in hp hq (fun f => f.k == 2) rfl (j := j)
 have hon := fun j => Wm.hears_in hp hq (fun f => f.k == 1 && f.i != x.id) rfl (j := j)
 have hlt := h.lt
 generalize hy : Wm.cold n x p q = y
 have HY := Lib.hid hy
 have KJ := Lib.hid kj
 have KB := Lib.hid kb
 have KW := Lib.hid kw
 have KI := Lib.hid ki
 have KO := Lib.hid ko
 have H := Lib.hid h
 have HIN := Lib.hid hin
 have HON := Lib.hid hon
 clear kj kb kw hx hp hq h3 h8 ki ko hy hin hon
 have c5 := h.at_ 5 _ rfl
 have c6 := h.at_ 6 _ rfl
 have c7 := h.at_ 7 _ rfl
 have c8 := h.at_ 8 _ rfl
 clear h
 go_enter Tryz.func132, Tryz.ntmps132
 go_wp2_with fail
 refine (KI.out _).mono ?_
 rintro e w1 ⟨rfl, b1⟩
 have h1 := H.out.below b1
 have B1 := Lib.hid (b1.mono (Nat.le_of_lt hlt))
 have H1 := Lib.hid h1
 clear c5 c6 c7 c8 b1
 have c0 := h1.at_ 0 _ rfl
 have c5 := h1.at_ 5 _ rfl
 have c6 := h1.at_ 6 _ rfl
 have c7 := h1.at_ 7 _ rfl
 have c8 := h1.at_ 8 _ rfl
 clear h1
 cases hi : Wm.info p q with
 | some j =>
  have e0 : Wm.cold n x p q = Wm.join n x j := by simp [Wm.cold, hi]
  have KJ1 := Lib.hid (KJ.out j (HIN.out j hi))
  obtain rfl := HY.out.symm.trans e0
  clear e0 hi HY
  go_wp2_with fail
  refine (KJ1.out _ H1.out).mono ?_
  rintro e w3 ⟨rfl, h3, b3⟩
  go_wp2_with fail
  exact Great.bodyPost_end0 rfl rfl ⟨rfl, h3, B1.out.trans b3⟩
 | none =>
  go_wp2_with fail
  go_region_held3 (fun w' => w'.cell? ⟨b, 0, none⟩ = some (.int .i64 x.id) ∧ w'.cell? ⟨b, 5, none⟩ = some (.int .i64 p.k) ∧ w'.cell? ⟨b, 6, none⟩ = some (.int .i64 p.i) ∧ w'.cell? ⟨b, 7, none⟩ = some (.int .i64 q.k) ∧ w'.cell? ⟨b, 8, none⟩ = some (.int .i64 q.i)) (go_keep) ((go_at_call 144; refine (KO.out _).mono ?_; rintro e w2 ⟨rfl, b2⟩; replace c0 := Kit.cell_below b2 c0; replace c5 := Kit.cell_below b2 c5; replace c6 := Kit.cell_below b2 c6; replace c7 := Kit.cell_below b2 c7; replace c8 := Kit.cell_below b2 c8; have b3 := (Below.refl _ w1).drew.trans b2; have H2 := Lib.hid (H1.out.below b3); have B2 := Lib.hid (B1.out.trans (b3.mono (Nat.le_of_lt H1.out.lt))); clear b2 b3))
  clear c0 c5 c6 c7 c8
  have c9 := H2.out.at_ 9 _ rfl
  cases hs : Wm.other x.id p q with
  | some j =>
   have e0 : Wm.cold n x p q = Wm.join n x j := by simp [Wm.cold, hi, hs]
   have KJ1 := Lib.hid (KJ.out j (HON.out j hs))
   obtain rfl := HY.out.symm.trans e0
   clear e0 hi HY hs
   go_wp2_with fail
   refine (KJ1.out _ H2.out).mono ?_
   rintro e w3 ⟨rfl, h3, b3⟩
   go_wp2_with fail
   exact Great.bodyPost_end0 rfl rfl ⟨rfl, h3, B2.out.trans b3⟩
  | none =>
   cases hc : Wm.cs n x with
   | true =>
    have e0 : Wm.cold n x p q = Wm.become x 2 := by simp [Wm.cold, hi, hs, hc]
    obtain rfl := HY.out.symm.trans e0
    rw [hc] at c9
    have HC := Lib.hid hc
    clear e0 hi HY hc hs
    go_wp2_with fail
    refine (KB.out _ H2.out).mono ?_
    rintro e w3 ⟨rfl, h3, b3⟩
    go_wp2_with fail
    exact Great.bodyPost_end0 rfl rfl ⟨rfl, HC.out ▸ h3, B2.out.trans b3⟩
   | false =>
    have e0 : Wm.cold n x p q = Wm.later x := by simp [Wm.cold, hi, hs, hc]
    obtain rfl := HY.out.symm.trans e0
    rw [hc] at c9
    have HC := Lib.hid hc
    clear e0 hi HY hc hs
    go_wp2_with fail
    refine (KW.out _ H2.out).mono ?_
    rintro e w3 ⟨rfl, h3, b3⟩
    go_wp2_with fail
    exact Great.bodyPost_end0 rfl rfl ⟨rfl, HC.out ▸ h3, B2.out.trans b3⟩
end Act
end Go.Proofs.YtgiojagdmglinaaGreatDoor
namespace Go.Proofs.YtgiojagdmglinaaGreatDoor
open Go.RowKit
namespace Act
set_option maxHeartbeats 1000000 in
theorem active_calls (b n i : Nat) (x : Nd) (p q : Fr) (w : World) (h : Ac w b n x p q (Wm.cs n x)) (h3 : 3 ≤ n) (h8 : n ≤ 8) (hx : Wm.NRight n i x) (hp : Wm.Sent n p) (hq : Wm.Sent n q) (hm : x.md = 3) :
  Calls Tryz.prog 133 #[.pointer (some ⟨b, 0, none⟩)] w (Left w b n (Wm.active n x p q) p q (Wm.cs n x)) := by
 have kwr := Hear.wrong_calls p q x.ps
 have kma := Hear.match_calls p q x.ps
 have ko := Hear.other_calls p q x.id
 have kb1 := fun (y : Nd) W (H : Ac W b n y p q (Wm.cs n x)) => become_ac b n 1 y p q (Wm.cs n x) W H
 have kb2 := fun W (H : Ac W b n x p q (Wm.cs n x)) => become_ac b n 2 x p q (Wm.cs n x) W H
 have kw := fun W (H : Ac W b n x p q (Wm.cs n x)) => wait_ac b n x p q (Wm.cs n x) W H hx.ct.1 hx.ct.2
 have kn := fun W => Tal.next_calls (n : Int) x.ps W (by omega) (by omega) hx.ps
 have kc := fun W => Cf.watch_calls (n : Int) W (by omega) (by omega)
 have hlt := h.lt
 generalize hy : Wm.active n x p q = y
 have HY := Lib.hid hy
 have HM := Lib.hid hm
 have hn64 : (n : Int) ≤ 8 := by omega
 have N3 := Lib.hid h3
 have hu : 0 ≤ Wm.up x.ct 1073741824 ∧ Wm.up x.ct 1073741824 ≤ 1073741824 := Wm.up_in (by omega)
 obtain ⟨hu0, hu1⟩ := hu
 have KB1 := Lib.hid kb1
 have KB2 := Lib.hid kb2
 have KW := Lib.hid kw
 have KN := Lib.hid kn
 have KC := Lib.hid kc
 have KWR := Lib.hid kwr
 have KMA := Lib.hid kma
 have KO := Lib.hid ko
 have H0 := Lib.hid h
 have B0 := Lib.hid (Below.refl b w)
 clear kb1 kb2 kw kn kc hx hp hq h3 h8 kwr kma ko hy hm
 have c3 := h.at_ 3 (.int .i64 x.ps) rfl
 have c5 := h.at_ 5 (.int .i64 p.k) rfl
 have c6 := h.at_ 6 (.int .i64 p.i) rfl
 have c7 := h.at_ 7 (.int .i64 q.k) rfl
 have c8 := h.at_ 8 (.int .i64 q.i) rfl
 clear h
 go_enter Tryz.func133, Tryz.ntmps133
 go_wp2_with fail
 go_region_held3 (fun w' => w'.cell? ⟨b, 3, none⟩ = some (.int .i64 x.ps) ∧ w'.cell? ⟨b, 5, none⟩ = some (.int .i64 p.k) ∧ w'.cell? ⟨b, 6, none⟩ = some (.int .i64 p.i) ∧ w'.cell? ⟨b, 7, none⟩ = some (.int .i64 q.k) ∧ w'.cell? ⟨b, 8, none⟩ = some (.int .i64 q.i)) (go_keep) ((go_at_call 148; refine (KWR.out _).mono ?_; rintro e w1 ⟨rfl, b2⟩; replace c3 := Kit.cell_below b2 c3; replace c5 := Kit.cell_below b2 c5; replace c6 := Kit.cell_below b2 c6; replace c7 := Kit.cell_below b2 c7; replace c8 := Kit.cell_below b2 c8; have b3 := (Below.refl _ w).drew.trans b2; have H1 := Lib.hid (H0.out.below b3); have B1 := Lib.hid (B0.out.trans (b3.mono (Nat.le_of_lt H0.out.lt))); clear b2 b3))
 clear c3 c5 c6 c7 c8
 cases hwr : Wm.wrong x.ps p q with
 | true =>
  have e0 : Wm.active n x p q = Wm.become x 1 := by simp [Wm.active, hwr]
  obtain rfl := HY.out.symm.trans e0
  clear e0 HY
  go_wp2_with fail
  refine (KB1.out _ _ H1.out).mono ?_
  rintro e w3 ⟨rfl, h3, b3⟩
  go_wp2_with fail
  exact Great.bodyPost_end0 rfl rfl ⟨rfl, h3, B1.out.trans b3⟩
 | false =>
  have c0 := H1.out.at_ 0 (.int .i64 x.id) rfl
  have c5 := H1.out.at_ 5 (.int .i64 p.k) rfl
  have c6 := H1.out.at_ 6 (.int .i64 p.i) rfl
  have c7 := H1.out.at_ 7 (.int .i64 q.k) rfl
  have c8 := H1.out.at_ 8 (.int .i64 q.i) rfl
  go_wp2_with fail
  go_region_held3 (fun w' => w'.cell? ⟨b, 0, none⟩ = some (.int .i64 x.id) ∧ w'.cell? ⟨b, 5, none⟩ = some (.int .i64 p.k) ∧ w'.cell? ⟨b, 6, none⟩ = some (.int .i64 p.i) ∧ w'.cell? ⟨b, 7, none⟩ = some (.int .i64 q.k) ∧ w'.cell? ⟨b, 8, none⟩ = some (.int .i64 q.i)) (go_keep) ((go_at_call 144; refine (KO.out _).mono ?_; rintro e w2 ⟨rfl, b2⟩; replace c0 := Kit.cell_below b2 c0; replace c5 := Kit.cell_below b2 c5; replace c6 := Kit.cell_below b2 c6; replace c7 := Kit.cell_below b2 c7; replace c8 := Kit.cell_below b2 c8; have b3 := (Below.refl _ w1).drew.trans b2; have H2 := Lib.hid (H1.out.below b3); have B2 := Lib.hid (B1.out.trans (b3.mono (Nat.le_of_lt H1.out.lt))); clear b2 b3))
  clear c0 c5 c6 c7 c8
  cases ho : (Wm.other x.id p q).isSome with
  | true =>
   have e0 : Wm.active n x p q = Wm.become x 2 := by simp [Wm.active, hwr, ho]
   obtain rfl := HY.out.symm.trans e0
   clear e0 HY
   go_wp2_with fail
   refine (KB2.out _ H2.out).mono ?_
   rintro e w3 ⟨rfl, h3, b3⟩
   go_wp2_with fail
   exact Great.bodyPost_end0 rfl rfl ⟨rfl, h3, B2.out.trans b3⟩
  | false =>
   go_wp2_with fail
   refine (KW.out _ H2.out).mono ?_
   rintro e w3 ⟨rfl, h3, b3⟩
   have H3 := Lib.hid h3
   have B3 := Lib.hid (B2.out.trans b3)
   have c3 := h3.at_ 3 (.int .i64 x.ps) rfl
   have c5 := h3.at_ 5 (.int .i64 p.k) rfl
   have c6 := h3.at_ 6 (.int .i64 p.i) rfl
   have c7 := h3.at_ 7 (.int .i64 q.k) rfl
   have c8 := h3.at_ 8 (.int .i64 q.i) rfl
   clear h3 b3
   go_wp2_with fail
   go_region_held3 (fun w' => w'.cell? ⟨b, 3, none⟩ = some (.int .i64 x.ps) ∧ w'.cell? ⟨b, 5, none⟩ = some (.int .i64 p.k) ∧ w'.cell? ⟨b, 6, none⟩ = some (.int .i64 p.i) ∧ w'.cell? ⟨b, 7, none⟩ = some (.int .i64 q.k) ∧ w'.cell? ⟨b, 8, none⟩ = some (.int .i64 q.i)) (go_keep) ((go_at_call 149; refine (KMA.out _).mono ?_; rintro e w4 ⟨rfl, b2⟩; replace c3 := Kit.cell_below b2 c3; replace c5 := Kit.cell_below b2 c5; replace c6 := Kit.cell_below b2 c6; replace c7 := Kit.cell_below b2 c7; replace c8 := Kit.cell_below b2 c8; have b3 := (Below.refl _ w3).drew.trans b2; have H4 := Lib.hid (H3.out.below b3); have B4 := Lib.hid (B3.out.trans (b3.mono (Nat.le_of_lt H3.out.lt))); clear b2 b3))
   clear c3 c5 c6 c7 c8
   have hlt4 := H4.out.lt
   cases hma : Wm.match_ x.ps p q with
   | true =>
    have e0 : Wm.active n x p q = ⟨x.id, 3, 0, Wm.nx n x.ps⟩ := by
     have : ¬ (8 * (n : Int) ≤ 0) := by have := N3.out; omega
     simp [Wm.active, hwr, ho, hma, this]
    obtain rfl := HY.out.symm.trans e0
    clear e0 HY hma ho hwr
    have gw : decide ((0 : Int) ≥ 8 * (n : Int)) = false := decide_eq_false (by have := N3.out; omega)
    have c2 := H4.out.at_ 2 (.int .i64 (Wm.up x.ct 1073741824)) rfl
    have f2 := H4.out.free 2 (by simp [cells])
    have h5 := (Kit.Row.set H4.out 2 (.int .i64 0) (by simp [cells]))
    have H5 := Lib.hid h5
    have c3 := h5.at_ 3 (.int .i64 x.ps) rfl
    have c4 := h5.at_ 4 (.int .i64 n) rfl
    have f3 := h5.free 3 (by simp [cells])
    clear h5
    go_wp2_with fail
    go_region_with (go_at_call 49; refine (KN.out _).mono ?_; rintro e wn ⟨rfl, rfl⟩)
    all_goals
     have h6 := H5.out.set 3 (.int .i64 (Wm.nx n x.ps)) (by simp [cells])
     have H6 := Lib.hid h6
     clear c2 c3 c4 f2 f3
     have c2 := h6.at_ 2 (.int .i64 0) rfl
     have c4 := h6.at_ 4 (.int .i64 n) rfl
     clear h6
     go_wp2_with fail
     go_region_held3 (fun w' => w'.cell? ⟨b, 2, none⟩ = some (.int .i64 0) ∧ w'.cell? ⟨b, 4, none⟩ = some (.int .i64 n)) (go_keep) ((go_at_call 150; refine (KC.out _).mono ?_; rintro e w7 ⟨rfl, b7⟩; replace c2 := Kit.cell_below b7 c2; replace c4 := Kit.cell_below b7 c4; have H7 := Lib.hid (H6.out.drew.drew.below b7); have B7 := Lib.hid b7; clear b7))
     have B8 := Lib.hid ((B4.out.trans ((((Below.refl b w4).setCell (p := ⟨b, 2, none⟩) (Nat.le_refl _) (.int .i64 0)).setCell (p := ⟨b, 3, none⟩) (Nat.le_refl _) (.int .i64 (Wm.nx n x.ps))).drew.drew)).trans (B7.out.mono (by simp; omega)))
     go_wp2_with fail
     refine Great.bodyPost_end0 rfl rfl ⟨rfl, H7.out.cast ?_, B8.out⟩
     simp [cells, HM.out, Wm.later]
   | false =>
    have h5 := H4.out
    have H5 := Lib.hid h5
    have c2 := h5.at_ 2 (.int .i64 (Wm.up x.ct 1073741824)) rfl
    have c3 := h5.at_ 3 (.int .i64 x.ps) rfl
    have c4 := h5.at_ 4 (.int .i64 n) rfl
    have f2 := h5.free 2 (by simp [cells])
    have f3 := h5.free 3 (by simp [cells])
    clear h5
    go_wp2_with fail
    go_region_with (go_at_call 49; refine (KN.out _).mono ?_; rintro e wn ⟨rfl, rfl⟩)
    all_goals
     have h6 := H5.out.set 3 (.int .i64 (Wm.nx n x.ps)) (by simp [cells])
     have H6 := Lib.hid h6
     clear c2 c3 c4 f2 f3
     have c2 := h6.at_ 2 (.int .i64 (Wm.up x.ct 1073741824)) rfl
     have c4 := h6.at_ 4 (.int .i64 n) rfl
     clear h6
     go_wp2_with fail
     go_region_held3 (fun w' => w'.cell? ⟨b, 2, none⟩ = some (.int .i64 (Wm.up x.ct 1073741824)) ∧ w'.cell? ⟨b, 4, none⟩ = some (.int .i64 n)) (go_keep) ((go_at_call 150; refine (KC.out _).mono ?_; rintro e w7 ⟨rfl, b7⟩; replace c2 := Kit.cell_below b7 c2; replace c4 := Kit.cell_below b7 c4; have H7 := Lib.hid (H6.out.drew.drew.below b7); have B7 := Lib.hid b7; clear b7))
     have B8 := Lib.hid ((B4.out.trans ((((Below.refl b w4).setCell (p := ⟨b, 3, none⟩) (Nat.le_refl _) (.int .i64 (Wm.nx n x.ps)))).drew.drew)).trans (B7.out.mono (by simp; omega)))
     by_cases hw : 8 * (n : Int) ≤ Wm.up x.ct 1073741824
     ·have e0 : Wm.active n x p q = Wm.become x 1 := by simp [Wm.active, hwr, ho, hma, Wm.mostCount, hw]
      obtain rfl := HY.out.symm.trans e0
      clear e0 HY hma ho hwr
      have H9 := Lib.hid (KB1.out ⟨x.id, x.md, Wm.up x.ct 1073741824, Wm.nx n x.ps⟩ _ (H7.out.cast rfl))
      go_wp2_with fail
      refine H9.out.mono ?_
      rintro e w9 ⟨rfl, h9, b9⟩
      go_wp2_with fail
      exact Great.bodyPost_end0 rfl rfl ⟨rfl, h9, B8.out.trans b9⟩
     ·have e0 : Wm.active n x p q = ⟨x.id, 3, Wm.up x.ct 1073741824, Wm.nx n x.ps⟩ := by simp [Wm.active, hwr, ho, hma, Wm.mostCount, hw]
      obtain rfl := HY.out.symm.trans e0
      clear e0 HY hma ho hwr
      go_wp2_with fail
      refine Great.bodyPost_end0 rfl rfl ⟨rfl, H7.out.cast ?_, B8.out⟩
      simp [cells, HM.out, Wm.later, Wm.mostCount]
end Act
end Go.Proofs.YtgiojagdmglinaaGreatDoor
namespace Go.Proofs.YtgiojagdmglinaaGreatDoor
open Go.RowKit Go.MapKept
namespace Mp
variable {P : Program}
theorem look_ok {t k e : TypeId} {d : TypeDesc} (ht : P.underlying t = some (.map k e)) (hd : P.underlying k = some d) {w : World} {r : Nat} {es : Array MapEntry} {c : Nat} (hb : w.heap[r]? = some (.map es c)) {key v : Value} {i : Nat} (hk : IsKey d key) (hf : Instr.findNow d key es.toList 0 = some (some (i, v))) :
  (Instr.lookup t (.map (some r)) key true).run P w = .ok (.tuple #[v, .bool true]) w := by
 simp [Instr.lookup, run_underlying ht, MapKept.run_getObj_map hb, run_checkKey hd hk, run_find hd hf, Result.andThen]
end Mp
namespace Act
def table : Array MapEntry := #[⟨.int .i64 1, .func (.func 131) #[] #[], 0⟩, ⟨.int .i64 2, .func (.func 132) #[] #[], 1⟩, ⟨.int .i64 3, .func (.func 133) #[] #[], 2⟩]
theorem tMap : Tryz.prog.underlying 164 = some (.map 3 162) := by kernel_rfl
theorem tInt : Tryz.prog.underlying 3 = some (.int .i64) := by kernel_rfl
set_option maxHeartbeats 400000 in
theorem modes_calls (w : World) : Calls Tryz.prog 120 #[] w fun e w' => e = .returned (.map (some w.heap.size)) ∧ w' = w.alloc (.map table 3) := by
 have hmm := @run_makeMap Tryz.prog
 have i0 : (Instr.mapUpdate 164 (.map (some w.heap.size)) (.int .i64 1) (.func (.func 131) #[] #[])).run Tryz.prog (w.alloc (.map #[] 0)) = .ok () (w.alloc (.map #[⟨.int .i64 1, .func (.func 131) #[] #[], 0⟩] 1)) := Mp.insert_new tMap tInt w #[] 0 _ _ rfl rfl
 have i1 : (Instr.mapUpdate 164 (.map (some w.heap.size)) (.int .i64 2) (.func (.func 132) #[] #[])).run Tryz.prog (w.alloc (.map #[⟨.int .i64 1, .func (.func 131) #[] #[], 0⟩] 1)) = .ok () (w.alloc (.map #[⟨.int .i64 1, .func (.func 131) #[] #[], 0⟩, ⟨.int .i64 2, .func (.func 132) #[] #[], 1⟩] 2)) := Mp.insert_new tMap tInt w #[⟨.int .i64 1, .func (.func 131) #[] #[], 0⟩] 1 _ _ rfl rfl
 have i2 : (Instr.mapUpdate 164 (.map (some w.heap.size)) (.int .i64 3) (.func (.func 133) #[] #[])).run Tryz.prog (w.alloc (.map #[⟨.int .i64 1, .func (.func 131) #[] #[], 0⟩, ⟨.int .i64 2, .func (.func 132) #[] #[], 1⟩] 2)) = .ok () (w.alloc (.map table 3)) := Mp.insert_new tMap tInt w #[⟨.int .i64 1, .func (.func 131) #[] #[], 0⟩, ⟨.int .i64 2, .func (.func 132) #[] #[], 1⟩] 2 _ _ rfl rfl
 go_enter Tryz.func120, Tryz.ntmps120
 go_wp2_with fail
 go_ret
 exact ⟨rfl, rfl⟩
theorem map_there (w : World) (a b c o : Obj) : ((((w.alloc a).alloc b).alloc c).alloc o).drew.heap[w.heap.size + 1 + 1 + 1]? = some o := by
 show ((((w.heap.push a).push b).push c).push o)[w.heap.size + 1 + 1 + 1]? = some o
 rw [Array.getElem?_push, if_pos (by simp)]
theorem say_k {n i : Nat} {x : Nd} (hx : Wm.NRight n i x) : ((Wm.say n x).k == 1) = Wm.cs n x := by
 unfold Wm.say
 split
 ·rename_i h
  have : Wm.cs n x = false := by simp [Wm.cs, h.1]
  rw [this]; rfl
 ·cases h : Wm.cs n x <;> simp [Fr.none]
theorem right_nr (n i : Nat) (x : Nd) (w : World) (h3 : 3 ≤ n) (h8 : n ≤ 8) (hi : i < n) (hx : Wm.NRight n i x) :
  Calls Tryz.prog 63 #[.int .i64 n, .agg #[.int .i64 x.id, .int .i64 x.md, .int .i64 x.ct, .int .i64 x.ps]] w fun e w' => e = .returned (.bool true) ∧ Below w.heap.size w w' :=
 Nod.right_calls n x.id x.md x.ct x.ps w (by omega) (by omega) (by rw [hx.id]; omega) (by rw [hx.id]; omega) hx.md hx.ct.1 hx.ct.2 hx.ps.1 hx.ps.2 hx.init hx.rest
set_option maxHeartbeats 1000000 in
theorem step_one (n i g k : Nat) (x : Nd) (p q : Fr) (w : World) (h3 : 3 ≤ n) (h8 : n ≤ 8) (hi : i < n) (hx : Wm.NRight n i x)
  (hf : Instr.findNow (.int .i64) (.int .i64 x.md) table.toList 0 = some (some (k, .func (.func g) #[] #[])))
  (eg : ∀ args w, (callFunc g args).run Tryz.prog w = .ok (.enter g args) w)
  (kg : ∀ W b, Ac W b n x p q (Wm.cs n x) → Calls Tryz.prog g #[.pointer (some ⟨b, 0, none⟩)] W (Left W b n (Wm.act n x p q) p q (Wm.cs n x))) :
  Calls Tryz.prog 104 #[.int .i64 n, .agg #[.int .i64 x.id, .int .i64 x.md, .int .i64 x.ct, .int .i64 x.ps], .agg #[.int .i64 p.k, .int .i64 p.i, .int .i64 q.k, .int .i64 q.i]] w
   fun e w' => e = .returned (.tuple #[.agg #[.int .i64 (Wm.act n x p q).id, .int .i64 (Wm.act n x p q).md, .int .i64 (Wm.act n x p q).ct, .int .i64 (Wm.act n x p q).ps], .int .i64 0]) ∧ Below w.heap.size w w' := by
 have km := modes_calls
 have lk : (Instr.lookup 164 (.map (some (w.heap.size + 1 + 1 + 1))) (.int .i64 x.md) true).run Tryz.prog ((((w.alloc (.cells #[.int .i64 x.id, .int .i64 x.md, .int .i64 x.ct, .int .i64 x.ps] 60)).alloc (.cells #[.int .i64 p.k, .int .i64 p.i, .int .i64 q.k, .int .i64 q.i] 46)).alloc (.cells #[.int .i64 0, .int .i64 0, .int .i64 0, .int .i64 0] 60)).alloc (.map table 3)).drew = .ok (.tuple #[.func (.func g) #[] #[], .bool true]) ((((w.alloc (.cells #[.int .i64 x.id, .int .i64 x.md, .int .i64 x.ct, .int .i64 x.ps] 60)).alloc (.cells #[.int .i64 p.k, .int .i64 p.i, .int .i64 q.k, .int .i64 q.i] 46)).alloc (.cells #[.int .i64 0, .int .i64 0, .int .i64 0, .int .i64 0] 60)).alloc (.map table 3)).drew :=
  Mp.look_ok tMap tInt (c := 3) (map_there ..) rfl hf
 have kr := fun W => right_nr n i x W h3 h8 hi hx
 have ks := fun W => Say.of_calls n i x W h3 h8 hi hx
 have hk := say_k hx
 simp only [Fr.val] at ks
 generalize Wm.say n x = s at *
 generalize Wm.act n x p q = y at *
 generalize hc : Wm.cs n x = c at *
 have KM := Lib.hid km
 have KR := Lib.hid kr
 have KS := Lib.hid ks
 have KG := Lib.hid kg
 clear km kr ks kg hf hx hc
 go_enter Tryz.func104, Tryz.ntmps104
 go_wp2_with fail
 have d1 : ((w.alloc (.cells #[.int .i64 x.id, .int .i64 x.md, .int .i64 x.ct, .int .i64 x.ps] 60)).cell? ⟨w.heap.size, 1, none⟩) = some (.int .i64 x.md) := World.cell?_alloc_new ..
 go_region_held3 (fun w' => w'.cell? ⟨w.heap.size, 1, none⟩ = some (.int .i64 x.md)) (go_keep) ((go_at_call 120; refine (KM.out _).mono ?_; rintro e wn ⟨rfl, rfl⟩))
 have r0 : Kit.Row ((((w.alloc (.cells #[.int .i64 x.id, .int .i64 x.md, .int .i64 x.ct, .int .i64 x.ps] 60)).alloc (.cells #[.int .i64 p.k, .int .i64 p.i, .int .i64 q.k, .int .i64 q.i] 46)).alloc (.cells #[.int .i64 0, .int .i64 0, .int .i64 0, .int .i64 0] 60)).alloc (.map table 3)).drew w.heap.size [.int .i64 x.id, .int .i64 x.md, .int .i64 x.ct, .int .i64 x.ps] := ((((Kit.Row.new w _ _).alloc _).alloc _).alloc _).drew
 have r1 : Kit.Row ((((w.alloc (.cells #[.int .i64 x.id, .int .i64 x.md, .int .i64 x.ct, .int .i64 x.ps] 60)).alloc (.cells #[.int .i64 p.k, .int .i64 p.i, .int .i64 q.k, .int .i64 q.i] 46)).alloc (.cells #[.int .i64 0, .int .i64 0, .int .i64 0, .int .i64 0] 60)).alloc (.map table 3)).drew (w.heap.size + 1) [.int .i64 p.k, .int .i64 p.i, .int .i64 q.k, .int .i64 q.i] := (((Kit.Row.newAt _ _ _ _ (by simp)).alloc _).alloc _).drew
 have r2 : Kit.Row ((((w.alloc (.cells #[.int .i64 x.id, .int .i64 x.md, .int .i64 x.ct, .int .i64 x.ps] 60)).alloc (.cells #[.int .i64 p.k, .int .i64 p.i, .int .i64 q.k, .int .i64 q.i] 46)).alloc (.cells #[.int .i64 0, .int .i64 0, .int .i64 0, .int .i64 0] 60)).alloc (.map table 3)).drew (w.heap.size + 1 + 1) [.int .i64 0, .int .i64 0, .int .i64 0, .int .i64 0] := ((Kit.Row.newAt _ _ _ _ (by simp)).alloc _).drew
 have hB : Below w.heap.size w ((((w.alloc (.cells #[.int .i64 x.id, .int .i64 x.md, .int .i64 x.ct, .int .i64 x.ps] 60)).alloc (.cells #[.int .i64 p.k, .int .i64 p.i, .int .i64 q.k, .int .i64 q.i] 46)).alloc (.cells #[.int .i64 0, .int .i64 0, .int .i64 0, .int .i64 0] 60)).alloc (.map table 3)).drew := (((((Below.refl _ _).alloc (Nat.le_refl _) _).alloc (by simp) _).alloc (by simp; omega) _).alloc (by simp; omega) _).drew
 clear lk d1
 generalize ((((w.alloc (.cells #[.int .i64 x.id, .int .i64 x.md, .int .i64 x.ct, .int .i64 x.ps] 60)).alloc (.cells #[.int .i64 p.k, .int .i64 p.i, .int .i64 q.k, .int .i64 q.i] 46)).alloc (.cells #[.int .i64 0, .int .i64 0, .int .i64 0, .int .i64 0] 60)).alloc (.map table 3)).drew = V at *
 have R0 := Lib.hid r0
 have R1 := Lib.hid r1
 have R2 := Lib.hid r2
 have HB := Lib.hid hB
 have c0 := r0.at_ 0 _ rfl
 have c1 := r0.at_ 1 _ rfl
 have c2 := r0.at_ 2 _ rfl
 have c3 := r0.at_ 3 _ rfl
 clear r0 r1 r2 hB
 go_wp2_with fail
 refine (KR.out _).mono ?_
 rintro e V1 ⟨rfl, b1⟩
 have R01 := Lib.hid (R0.out.below b1)
 have R11 := Lib.hid (R1.out.below b1)
 have R21 := Lib.hid (R2.out.below b1)
 have HB1 := Lib.hid (HB.out.trans (b1.mono HB.out.size))
 clear c0 c1 c2 c3 b1
 have c0 := R01.out.at_ 0 _ rfl
 have c1 := R01.out.at_ 1 _ rfl
 have c2 := R01.out.at_ 2 _ rfl
 have c3 := R01.out.at_ 3 _ rfl
 go_wp2_with fail
 refine (KS.out _).mono ?_
 rintro e V2 ⟨rfl, b2⟩
 have R02 := Lib.hid (R01.out.below b2)
 have R12 := Lib.hid (R11.out.below b2)
 have R22 := Lib.hid (R21.out.below b2)
 have HB2 := Lib.hid (HB1.out.trans (b2.mono HB1.out.size))
 clear c0 c1 c2 c3 b2
 have c0 := R02.out.at_ 0 _ rfl
 have c1 := R02.out.at_ 1 _ rfl
 have c2 := R02.out.at_ 2 _ rfl
 have c3 := R02.out.at_ 3 _ rfl
 have d0 := R12.out.at_ 0 _ rfl
 have d1 := R12.out.at_ 1 _ rfl
 have d2 := R12.out.at_ 2 _ rfl
 have d3 := R12.out.at_ 3 _ rfl
 have l0 := R02.out.lt
 have l1 := R12.out.lt
 have l2 := R22.out.lt
 obtain ⟨sk, si⟩ := s
 simp only at hk
 go_wp2_with fail
 refine (KG.out _ _ (Kit.Row.newAt _ _ _ _ (by simp))).mono ?_
 rintro e V3 ⟨rfl, a3, b3⟩
 have R23 := Lib.hid (((R22.out.alloc _).alloc _).kept b3 (by omega))
 have HB3 := Lib.hid (((HB2.out.alloc HB2.out.size _).alloc (by have := HB2.out.size; simp; omega) _).trans (b3.mono (by have := HB2.out.size; omega)))
 clear c0 c1 c2 c3 d0 d1 d2 d3 b3 l0 l1
 have hlt := R23.out.lt
 have c0 := a3.at_ 0 (.int .i64 y.id) rfl
 have c1 := a3.at_ 1 (.int .i64 y.md) rfl
 have c2 := a3.at_ 2 (.int .i64 y.ct) rfl
 have c3 := a3.at_ 3 (.int .i64 y.ps) rfl
 have d0 := R23.out.at_ 0 _ rfl
 have d1 := R23.out.at_ 1 _ rfl
 have d2 := R23.out.at_ 2 _ rfl
 have d3 := R23.out.at_ 3 _ rfl
 have f0 := R23.out.free 0 (by simp)
 have f1 := R23.out.free 1 (by simp)
 have f2 := R23.out.free 2 (by simp)
 have f3 := R23.out.free 3 (by simp)
 clear a3
 go_wp2_with fail
 have r4 := (((R23.out.set 0 (.int .i64 y.id) (by simp)).set 1 (.int .i64 y.md) (by simp)).set 2 (.int .i64 y.ct) (by simp)).set 3 (.int .i64 y.ps) (by simp)
 have p0 := r4.at_ 0 (.int .i64 y.id) rfl
 have p1 := r4.at_ 1 (.int .i64 y.md) rfl
 have p2 := r4.at_ 2 (.int .i64 y.ct) rfl
 have p3 := r4.at_ 3 (.int .i64 y.ps) rfl
 clear r4
 refine bodyPost_ret (v := .tuple #[.agg #[.int .i64 y.id, .int .i64 y.md, .int .i64 y.ct, .int .i64 y.ps], .int .i64 0]) (by simp [results, Tryz.results104, go_sem, p0, p1, p2, p3, hlt]) rfl ⟨rfl, ?_⟩
 repeat' (first | (with_reducible exact HB3.out) | (with_reducible refine Below.setCell ?_ ?_ _) | (with_reducible refine Below.alloc ?_ ?_ _) | (with_reducible refine Below.drew ?_))
 all_goals (first | omega | (simp; done) | (simp; omega))
theorem step_calls (n i : Nat) (x : Nd) (p q : Fr) (w : World) (h3 : 3 ≤ n) (h8 : n ≤ 8) (hi : i < n) (hx : Wm.NRight n i x) (h0 : x.md ≠ 0) (hp : Wm.Sent n p) (hq : Wm.Sent n q) :
  Calls Tryz.prog 104 #[.int .i64 n, .agg #[.int .i64 x.id, .int .i64 x.md, .int .i64 x.ct, .int .i64 x.ps], .agg #[.int .i64 p.k, .int .i64 p.i, .int .i64 q.k, .int .i64 q.i]] w
   fun e w' => e = .returned (.tuple #[.agg #[.int .i64 (Wm.act n x p q).id, .int .i64 (Wm.act n x p q).md, .int .i64 (Wm.act n x p q).ct, .int .i64 (Wm.act n x p q).ps], .int .i64 0]) ∧ Below w.heap.size w w' := by
 have hm := hx.md
 obtain e | e | e : x.md = 1 ∨ x.md = 2 ∨ x.md = 3 := by omega
 ·refine step_one n i 131 0 x p q w h3 h8 hi hx (by rw [e]; rfl) (Kit.enters Tryz.func131 (by kernel_rfl) rfl) fun W b h => ?_
  have ea : Wm.act n x p q = Wm.listen n x p q := by unfold Wm.act; rw [if_pos e]
  rw [ea]
  exact listen_calls b n i x p q W h h3 h8 hx hp hq
 ·refine step_one n i 132 1 x p q w h3 h8 hi hx (by rw [e]; rfl) (Kit.enters Tryz.func132 (by kernel_rfl) rfl) fun W b h => ?_
  have ea : Wm.act n x p q = Wm.cold n x p q := by unfold Wm.act; rw [if_neg (by omega), if_pos e]
  rw [ea]
  exact cold_calls b n i x p q W h h3 h8 hx hp hq
 ·refine step_one n i 133 2 x p q w h3 h8 hi hx (by rw [e]; rfl) (Kit.enters Tryz.func133 (by kernel_rfl) rfl) fun W b h => ?_
  have ea : Wm.act n x p q = Wm.active n x p q := by unfold Wm.act; rw [if_neg (by omega), if_neg (by omega)]
  rw [ea]
  exact active_calls b n i x p q W h h3 h8 hx hp hq e
end Act
end Go.Proofs.YtgiojagdmglinaaGreatDoor
namespace Go.Proofs.YtgiojagdmglinaaGreatDoor
open Go.RowKit
namespace Vote
def ord (j : Nat) : Nat := if j = 0 then 9 else if j = 1 then 10 else j - 2
def ms (n j : Nat) : Int := if j = 0 then 2 * n + 1 else if j = 1 then 2 * n else Wm.most n (j - 2)
theorem ms_in (n j : Nat) (h8 : n ≤ 8) : 0 ≤ ms n j ∧ ms n j ≤ 17 := by
 unfold ms Wm.most
 split
 ·omega
 ·split
  ·omega
  ·split <;> omega
theorem ord_lt {j : Nat} (h : j < 10) : ord j < 12 := by unfold ord; split <;> (try split) <;> omega
def fcell (b n j : Nat) : List Value := [.pointer (some ⟨b, ord j, none⟩), .int .i64 (ms n j)]
def fcells (b n k : Nat) : List Value := ((List.range k).map (fcell b n)).flatten
theorem fcells_succ (b n k : Nat) : fcells b n (k + 1) = fcells b n k ++ fcell b n k := by
 unfold fcells
 rw [List.range_succ, List.map_append, List.flatten_append]
 simp
theorem fcells_get (b n k j : Nat) (h : j < k) : (fcells b n k)[j * 2]? = some (.pointer (some ⟨b, ord j, none⟩)) ∧ (fcells b n k)[j * 2 + 1]? = some (.int .i64 (ms n j)) := by
 have hk : ∀ c ∈ (List.range k).map (fcell b n), c.length = 2 := by
  intro c hc
  obtain ⟨x, _, rfl⟩ := List.mem_map.1 hc
  rfl
 have hj : ((List.range k).map (fcell b n))[j]? = some (fcell b n j) := by rw [List.getElem?_map, List.getElem?_range h]; rfl
 exact ⟨flat_get 2 _ hk j _ hj 0 _ rfl, flat_get 2 _ hk j _ hj 1 _ rfl⟩
def upd (φ : Int → Int → Int) (n : Nat) (L : List Int) : Nat → List Int
 | 0 => L
 | k + 1 => (upd φ n L k).set (ord k) (φ ((upd φ n L k).getD (ord k) 0) (ms n k))
theorem upd_len (φ : Int → Int → Int) (n : Nat) (L : List Int) (k : Nat) : (upd φ n L k).length = L.length := by
 induction k with
 | zero => rfl
 | succ k ih => simp [upd, ih]
def ints (L : List Int) : List Value := L.map (Value.int .i64)
theorem ints_len (L : List Int) : (ints L).length = L.length := by simp [ints]
theorem ints_set (L : List Int) (k : Nat) (v : Int) : (ints L).set k (.int .i64 v) = ints (L.set k v) := by unfold ints; rw [List.map_set]
theorem ints_at (L : List Int) (k : Nat) (h : k < L.length) : (ints L)[k]? = some (.int .i64 (L.getD k 0)) := by
 unfold ints
 rw [List.getElem?_map, List.getD_eq_getElem?_getD, List.getElem?_eq_getElem h]
 rfl
end Vote
namespace Wm
def nums (h : Hb) : List Int := [h.ag 0, h.ag 1, h.ag 2, h.ag 3, h.ag 4, h.ag 5, h.ag 6, h.ag 7, h.port, h.age, h.hold, h.pos]
def ofNums (L : List Int) : Hb := ⟨L.take 8, L.getD 8 0, L.getD 9 0, L.getD 10 0, L.getD 11 0⟩
end Wm
def Hb.val (h : Hb) : Value := .agg #[.int .i64 (h.ag 0), .int .i64 (h.ag 1), .int .i64 (h.ag 2), .int .i64 (h.ag 3), .int .i64 (h.ag 4), .int .i64 (h.ag 5), .int .i64 (h.ag 6), .int .i64 (h.ag 7), .int .i64 h.port, .int .i64 h.age, .int .i64 h.hold, .int .i64 h.pos]
end Go.Proofs.YtgiojagdmglinaaGreatDoor
