/-
  Part 5 of a merged text.
-/
import Derived.Test.YtgiojagdmglinaaGreatDoorGb04
import Derived.Test.YtgiojagdmglinaaGreatDoorGb00
import Derived.BigRegion
set_option linter.unusedVariables false
set_option linter.unusedSimpArgs false
set_option maxRecDepth 100000
namespace Go.Proofs.YtgiojagdmglinaaGreatDoor
namespace Wm
theorem nx_in {n : Nat} {p : Int} (h : 0 ≤ p ∧ p < n) : 0 ≤ nx n p ∧ nx n p < n := by unfold nx; split <;> omega
theorem up_in {c m : Int} (hm : 0 ≤ m) : 0 ≤ up c m ∧ up c m ≤ m := by unfold up; split <;> omega
theorem most_in (n p : Nat) : 0 ≤ most n p := by unfold most; split <;> omega
structure Fit (n : Nat) (l : List Fr) : Prop where
 len : l.length = n
 any : ∀ p, p < n → frAt l p = Fr.none ∨ frAt l p = ⟨1, p⟩ ∨ frAt l p = ⟨2, p⟩
def Sent (n : Nat) (f : Fr) : Prop := f = Fr.none ∨ ∃ p : Nat, p < n ∧ (f = ⟨1, p⟩ ∨ f = ⟨2, p⟩)
theorem sent_none (n : Nat) : Sent n Fr.none := Or.inl rfl
theorem Fit.sent {n : Nat} {l : List Fr} (h : Fit n l) (p : Nat) (hp : p < n) : Sent n (frAt l p) := by
 rcases h.any p hp with e | e | e
 ·exact Or.inl e
 ·exact Or.inr ⟨p, hp, Or.inl e⟩
 ·exact Or.inr ⟨p, hp, Or.inr e⟩
theorem eight_ag' (f : Nat → Int) (p : Nat) (h : p < 8) (a b c d : Int) : (Hb.mk (eight f) a b c d).ag p = f p := eight_at f p h
theorem eight_out (f : Nat → Int) (p : Nat) (h : 8 ≤ p) (a b c d : Int) : (Hb.mk (eight f) a b c d).ag p = 0 := by
 unfold Hb.ag
 rw [List.getD_eq_getElem?_getD, List.getElem?_eq_none (by unfold eight; simp; omega)]
 rfl
theorem eight_len (f : Nat → Int) : (eight f).length = 8 := by simp [eight]
theorem tick_right {n : Nat} {h : Hb} (h0 : 0 < n) (h8 : n ≤ 8) (r : Right n h) : Right n (tick n h) where
 len := eight_len _
 ag := fun p hp => by
  have e : (tick n h).ag p = up (h.ag p) (most n p) := eight_ag' _ p (by omega) _ _ _ _
  rw [e]
  have := up_in (c := h.ag p) (most_in n p)
  unfold most at this ⊢
  rw [if_pos hp] at this ⊢
  exact this
 no := fun p hp => by
  by_cases h8' : p < 8
  ·have e : (tick n h).ag p = up (h.ag p) (most n p) := eight_ag' _ p h8' _ _ _ _
   rw [e]
   have := up_in (c := h.ag p) (most_in n p)
   unfold most at this ⊢
   rw [if_neg (by omega)] at this ⊢
   omega
  ·exact eight_out _ p (by omega) _ _ _ _
 age := up_in (by omega)
 hold := by have := r.hold; show 0 ≤ max h.hold 1 - 1 ∧ max h.hold 1 - 1 ≤ 2 * n; omega
 port := r.port
 pos := nx_in r.pos
theorem note_right {n : Nat} {h : Hb} (l : List Fr) (h8 : n ≤ 8) (r : Right n h) : Right n (note n h l) where
 len := eight_len _
 ag := fun p hp => by
  have e : (note n h l).ag p = if p < n ∧ (frAt l p).k = 2 then 0 else h.ag p := eight_ag' _ p (by omega) _ _ _ _
  rw [e]
  have := r.ag p hp
  split <;> omega
 no := fun p hp => by
  by_cases h8' : p < 8
  ·have e : (note n h l).ag p = if p < n ∧ (frAt l p).k = 2 then 0 else h.ag p := eight_ag' _ p h8' _ _ _ _
   rw [e, if_neg (by omega)]
   exact r.no p hp
  ·exact eight_out _ p (by omega) _ _ _ _
 age := r.age
 hold := r.hold
 port := r.port
 pos := r.pos
theorem chosen_lt {n : Nat} {h : Hb} (h0 : 0 < n) (r : Right n h) : (chosen n h).1 < n := by
 unfold chosen
 split
 ·exact (best_spec n h h0).1
 ·have := r.pos
  show h.pos.toNat < n
  omega
theorem settle_right {n : Nat} {h : Hb} (h0 : 0 < n) (r : Right n h) : Right n (settle n h) := by
 unfold settle
 split
 ·have := chosen_lt h0 r
  exact ⟨r.len, r.ag, r.no, r.age, ⟨by show (0 : Int) ≤ 2 * n; omega, by show (2 : Int) * n ≤ 2 * n; omega⟩, r.port, ⟨by show (0 : Int) ≤ ((chosen n h).1 : Nat); omega, by show (((chosen n h).1 : Nat) : Int) < n; omega⟩⟩
 ·exact r
theorem firstCs_some {l : List Fr} {p : Nat} (h : firstCs l = some p) : p < l.length ∧ (frAt l p).k = 1 := by
 unfold firstCs at h
 rw [List.findIdx?_eq_some_iff_getElem] at h
 obtain ⟨h1, h2, _⟩ := h
 refine ⟨h1, ?_⟩
 unfold frAt
 rw [List.getD_eq_getElem?_getD, List.getElem?_eq_getElem h1]
 simpa using h2
theorem relay_right {n : Nat} {h : Hb} {l : List Fr} (h8 : n ≤ 8) (fit : Fit n l) (r : Right n h) : Right n (relay n h l).1 ∧ Sent n (relay n h l).2 := by
 have hp := r.pos
 unfold relay
 split
 ·split
  ·exact ⟨⟨r.len, r.ag, r.no, r.age, ⟨by show (0 : Int) ≤ 2 * n; omega, by show (2 : Int) * n ≤ 2 * n; omega⟩, r.port, r.pos⟩, fit.sent _ (by omega)⟩
  ·exact ⟨r, sent_none n⟩
 ·split
  ·exact ⟨r, sent_none n⟩
  ·rename_i p hc
   obtain ⟨hpl, _⟩ := firstCs_some hc
   rw [fit.len] at hpl
   split
   ·exact ⟨r, sent_none n⟩
   ·refine ⟨⟨eight_len _, fun q hq => ?_, fun q hq => ?_, ?_, r.hold, ?_, r.pos⟩, fit.sent _ hpl⟩
    ·rw [eight_ag' _ _ (by omega), if_pos hq]; omega
    ·by_cases h8' : q < 8
     ·rw [eight_ag' _ _ h8', if_neg (by omega)]; exact r.no q hq
     ·exact eight_out _ q (by omega) _ _ _ _
    ·show (0 : Int) ≤ 0 ∧ (0 : Int) ≤ 2 * n + 1; omega
    ·show (0 : Int) ≤ p ∧ (p : Int) < n; omega
theorem hub_right {n : Nat} {h : Hb} {l : List Fr} (h0 : 0 < n) (h8 : n ≤ 8) (fit : Fit n l) (r : Right n h) : Right n (hub n h l).1 ∧ Sent n (hub n h l).2 :=
 relay_right h8 fit (settle_right h0 (note_right l h8 (tick_right h0 h8 r)))
theorem fresh_right {n : Nat} (h0 : 0 < n) (h8 : n ≤ 8) : Right n (fresh n) where
 len := eight_len _
 ag := fun p hp => by
  have e : (fresh n).ag p = most n p := eight_ag' _ p (by omega) _ _ _ _
  rw [e]; unfold most; rw [if_pos hp]; omega
 no := fun p hp => by
  by_cases h8' : p < 8
  ·have e : (fresh n).ag p = most n p := eight_ag' _ p h8' _ _ _ _
   rw [e]; unfold most; rw [if_neg (by omega)]
  ·exact eight_out _ p (by omega) _ _ _ _
 age := by show (0 : Int) ≤ 2 * n + 1 ∧ (2 : Int) * n + 1 ≤ 2 * n + 1; omega
 hold := by show (0 : Int) ≤ 0 ∧ (0 : Int) ≤ 2 * n; omega
 port := by show (0 : Int) ≤ 0 ∧ (0 : Int) < n; omega
 pos := by show (0 : Int) ≤ 0 ∧ (0 : Int) < n; omega
theorem hears_in {n : Nat} {a b : Fr} (ha : Sent n a) (hb : Sent n b) (p : Fr → Bool) (hp : p Fr.none = false) {j : Int} (h : hears p a b = some j) : 0 ≤ j ∧ j < n := by
 have one : ∀ f : Fr, Sent n f → p f = true → 0 ≤ f.i ∧ f.i < n := fun f hf h1 => by
  rcases hf with rfl | ⟨q, hq, rfl | rfl⟩
  ·rw [hp] at h1; cases h1
  ·show (0 : Int) ≤ q ∧ (q : Int) < n; omega
  ·show (0 : Int) ≤ q ∧ (q : Int) < n; omega
 unfold hears at h
 split at h
 ·rename_i h1
  injection h with h
  rw [← h]; exact one a ha h1
 ·split at h
  ·rename_i h1
   injection h with h
   rw [← h]; exact one b hb h1
  ·cases h
theorem join_right {n i : Nat} {x : Nd} {j : Int} (r : NRight n i x) (hj : 0 ≤ j ∧ j < n) : NRight n i (join n x j) where
 id := r.id
 md := by show (0 : Int) ≤ 3 ∧ (3 : Int) ≤ 3; omega
 ct := by show (0 : Int) ≤ 0 ∧ (0 : Int) ≤ mostCount; unfold mostCount; omega
 ps := nx_in hj
 init := fun h => by have : (3 : Int) = 0 := h; omega
 rest := fun h => absurd rfl h
theorem become_right {n i : Nat} {x : Nd} {m : Int} (h0 : 0 < n) (r : NRight n i x) (hm : m = 1 ∨ m = 2) : NRight n i (become x m) where
 id := r.id
 md := by show (0 : Int) ≤ m ∧ m ≤ 3; omega
 ct := by show (0 : Int) ≤ 0 ∧ (0 : Int) ≤ mostCount; unfold mostCount; omega
 ps := by show (0 : Int) ≤ 0 ∧ (0 : Int) < n; omega
 init := fun _ => rfl
 rest := fun _ => rfl
theorem later_right {n i : Nat} {x : Nd} (r : NRight n i x) (h0 : x.md ≠ 0) : NRight n i (later x) where
 id := r.id
 md := r.md
 ct := up_in (by unfold mostCount; omega)
 ps := r.ps
 init := fun h => absurd h h0
 rest := r.rest
theorem act_right {n i : Nat} {x : Nd} {a b : Fr} (hn : 0 < n) (r : NRight n i x) (h0 : x.md ≠ 0) (ha : Sent n a) (hb : Sent n b) : NRight n i (act n x a b) := by
 have hi : ∀ j, info a b = some j → 0 ≤ j ∧ j < n := fun j h => hears_in ha hb _ rfl h
 have ho : ∀ j, other x.id a b = some j → 0 ≤ j ∧ j < n := fun j h => hears_in ha hb _ rfl h
 unfold act
 split
 ·unfold listen
  split
  ·rename_i h; exact join_right r (hi _ h)
  ·split
   ·exact become_right hn r (Or.inr rfl)
   ·exact later_right r h0
 ·split
  ·unfold cold
   split
   ·rename_i h; exact join_right r (hi _ h)
   ·split
    ·rename_i h; exact join_right r (ho _ h)
    ·split
     ·exact become_right hn r (Or.inr rfl)
     ·exact later_right r h0
  ·unfold active
   split
   ·exact become_right hn r (Or.inl rfl)
   ·split
    ·exact become_right hn r (Or.inr rfl)
    ·simp only
     generalize hc : (if match_ x.ps a b = true then 0 else up x.ct mostCount) = c
     have c0 : 0 ≤ c ∧ c ≤ mostCount := by
      rw [← hc]
      split
      ·unfold mostCount; omega
      ·exact up_in (by unfold mostCount; omega)
     split
     ·exact become_right hn r (Or.inl rfl)
     ·exact ⟨r.id, by show (0 : Int) ≤ 3 ∧ (3 : Int) ≤ 3; omega, c0, nx_in r.ps, fun h => by have : (3 : Int) = 0 := h; omega, fun h => absurd rfl h⟩
theorem wake_right {n i : Nat} {x : Nd} (hn : 0 < n) (r : NRight n i x) : NRight n i (become x 1) := become_right hn r (Or.inl rfl)
theorem say_fit {n i : Nat} {x : Nd} (r : NRight n i x) : say n x = Fr.none ∨ say n x = ⟨1, i⟩ ∨ say n x = ⟨2, i⟩ := by
 have e := r.id
 unfold say
 split
 ·exact Or.inr (Or.inr (by rw [e]))
 ·split
  ·exact Or.inr (Or.inl (by rw [e]))
  ·exact Or.inl rfl
end Wm
namespace Port
theorem one_cases (p : Nat) (s : ByteArray) : one p s = Fr.none ∨ one p s = ⟨1, p⟩ ∨ one p s = ⟨2, p⟩ := by
 unfold one
 split
 ·rename_i h
  obtain ⟨h1, h2⟩ := h
  obtain ⟨h3, _⟩ := (Fr.right_iff _).1 h1
  generalize Wire.get s = z at *
  obtain ⟨k, i⟩ := z
  simp only at h2 h3
  subst h2
  rcases h3 with rfl | rfl
  ·exact Or.inr (Or.inl rfl)
  ·exact Or.inr (Or.inr rfl)
 ·exact Or.inl rfl
theorem take_at (l : List ByteArray) (n p : Nat) (h : p < n) : frAt (take l n) p = one p (l.getD p ByteArray.empty) := by
 unfold frAt take
 rw [List.getD_eq_getElem?_getD, List.getElem?_map, List.getElem?_range h]
 rfl
theorem take_fit (l : List ByteArray) (n : Nat) : Wm.Fit n (take l n) := ⟨take_len l n, fun p hp => by rw [take_at l n p hp]; exact one_cases p _⟩
theorem pick_cases {p : Nat} {a b : Fr} (ha : a = Fr.none ∨ a = ⟨1, p⟩ ∨ a = ⟨2, p⟩) (hb : b = Fr.none ∨ b = ⟨1, p⟩ ∨ b = ⟨2, p⟩) : pick a b = Fr.none ∨ pick a b = ⟨1, p⟩ ∨ pick a b = ⟨2, p⟩ := by
 unfold pick
 split
 ·exact hb
 ·exact ha
theorem frAt_eq {l : List Fr} {p : Nat} (h : p < l.length) : l[p]? = some (frAt l p) := by
 unfold frAt
 rw [List.getD_eq_getElem?_getD, List.getElem?_eq_getElem h]
 rfl
theorem both_at {n : Nat} {a b : List Fr} (ha : a.length = n) (hb : b.length = n) (p : Nat) (hp : p < n) : frAt (both a b) p = pick (frAt a p) (frAt b p) := by
 have h := both_get a b p _ _ (frAt_eq (by omega)) (frAt_eq (by omega))
 unfold frAt at h ⊢
 rw [List.getD_eq_getElem?_getD, h]
 rfl
theorem both_fit {n : Nat} {a b : List Fr} (ha : Wm.Fit n a) (hb : Wm.Fit n b) : Wm.Fit n (both a b) :=
 ⟨by rw [both_len a b (by rw [ha.len, hb.len]), hb.len], fun p hp => by rw [both_at ha.len hb.len p hp]; exact pick_cases (ha.any p hp) (hb.any p hp)⟩
theorem both_self (l : List Fr) : both l l = l := by
 unfold both
 induction l with
 | nil => rfl
 | cons a l ih => rw [List.zipWith_cons_cons, ih]; unfold pick; split <;> rfl
end Port
end Go.Proofs.YtgiojagdmglinaaGreatDoor
namespace Go.Proofs.YtgiojagdmglinaaGreatDoor
open Go.RowKit
namespace Pw
set_option maxHeartbeats 400000 in
theorem tick_calls (t : Int) (w : World) (h0 : 0 ≤ t) (h1 : t ≤ 2000) : Calls Tryz.prog 90 #[.int .i64 t] w fun e w' => e = .returned (.bool true) ∧ w = w' := by
 have g0 : decide (t ≥ 0) = true := decide_eq_true h0
 have g1 : decide (t ≤ 2000) = true := decide_eq_true h1
 go_enter Tryz.func90, Tryz.ntmps90
 go_wp2_with fail
 go_ret
 exact ⟨rfl, rfl⟩
set_option maxHeartbeats 400000 in
theorem right1_calls (t : Int) (w : World) (h0 : 0 ≤ t) (h1 : t ≤ 2000) : Calls Tryz.prog 89 #[.int .i64 t] w fun e w' => e = .returned (.bool false) ∧ w = w' := by
 have kt := fun W => tick_calls t W h0 h1
 have KT := Lib.hid kt
 clear kt
 go_enter Tryz.func89, Tryz.ntmps89
 go_wp2_with fail
 refine (KT.out _).mono ?_
 rintro e w' ⟨rfl, rfl⟩
 go_wp2_with fail
 go_ret
 exact ⟨rfl, rfl⟩
set_option maxHeartbeats 400000 in
theorem ifunc_calls (A : Option Addr) (n cap : Nat) (l : List Int) (w : World) (hl : Whole w A n l) (hn : n ≤ 1000) (hall : ∀ i, i < n → 0 ≤ l.getD i 0 ∧ l.getD i 0 ≤ 2000) :
  Calls Tryz.prog 106 #[.slice A n cap, .func (.func 89) #[] #[]] w fun e w' => e = .returned (.int .i64 (-1)) ∧ w = w' := by
 have HL := Lib.hid hl
 have HA := Lib.hid hall
 have e1 : ∀ args w, (callFunc 89 args).run Tryz.prog w = .ok (.enter 89 args) w := Kit.enters Tryz.func89 (by kernel_rfl) rfl
 clear hl hall
 go_enter Tryz.func106, Tryz.ntmps106
 go_wp2_with fail
 go_loopw [5, 8] (fun _ vi wr => ∃ k : Nat, k ≤ n ∧ vi = .int .i64 k ∧ wr = w) (fun _ vi _ => n - (intOf vi).toNat)
 case atStart => exact ⟨0, by omega, rfl, rfl⟩
 case round =>
  obtain ⟨k, hk, rfl, rfl⟩ := hrel
  by_cases hlt : k < n
  ·obtain ⟨b, off, rfl, hb, m0⟩ := HL.out.at_ hlt
   have kt := fun W => right1_calls (l.getD k 0) W (HA.out k hlt).1 (HA.out k hlt).2
   generalize l.getD k 0 = x at *
   have KT := Lib.hid kt
   clear kt
   go_wp2_with fail
   refine (KT.out _).mono ?_
   rintro e w' ⟨rfl, rfl⟩
   go_wp2_with fail
   go_roundw
   case rel => exact ⟨k + 1, by omega, by go_num, by first | rfl | trivial⟩
   case measure => simp [intOf]; omega
  ·obtain rfl : k = n := by omega
   go_wp2_with fail
   go_ret
   exact ⟨rfl, rfl⟩
set_option maxHeartbeats 400000 in
theorem cfunc_calls (A : Option Addr) (n cap : Nat) (l : List Int) (w : World) (hl : Whole w A n l) (hn : n ≤ 1000) (hall : ∀ i, i < n → 0 ≤ l.getD i 0 ∧ l.getD i 0 ≤ 2000) :
  Calls Tryz.prog 76 #[.slice A n cap, .func (.func 89) #[] #[]] w fun e w' => e = .returned (.bool false) ∧ w = w' := by
 have ki := ifunc_calls A n cap l w hl hn hall
 have KI := Lib.hid ki
 clear ki hl hall
 go_enter Tryz.func76, Tryz.ntmps76
 go_wp2_with fail
 refine KI.out.mono ?_
 rintro e w' ⟨rfl, rfl⟩
 go_wp2_with fail
 go_ret
 exact ⟨rfl, rfl⟩
set_option maxHeartbeats 400000 in
theorem right_calls (A : Option Addr) (n cap : Nat) (l : List Int) (w : World) (h3 : 3 ≤ n) (h8 : n ≤ 8) (hl : Whole w A n l) (hall : ∀ i, i < n → 0 ≤ l.getD i 0 ∧ l.getD i 0 ≤ 2000) :
  Calls Tryz.prog 64 #[.int .i64 n, .slice A n cap] w fun e w' => e = .returned (.bool true) ∧ w = w' := by
 have kr := fun W => Cf.right_calls (n : Int) W (by omega) (by omega)
 have kc := cfunc_calls A n cap l w hl (by omega) hall
 have KR := Lib.hid kr
 have KC := Lib.hid kc
 have gn : ((n : Int) == (n : Int)) = true := by simp
 clear kr kc hl hall
 go_enter Tryz.func64, Tryz.ntmps64
 go_wp2_with fail
 refine (KR.out _).mono ?_
 rintro e w' ⟨rfl, rfl⟩
 go_wp2_with fail
 refine KC.out.mono ?_
 rintro e w' ⟨rfl, rfl⟩
 go_wp2_with fail
 go_ret
 exact ⟨rfl, rfl⟩
end Pw
structure Wd where
 n : Nat
 tick : Int
 c : Int
 v : Int
 pa : Option Addr
 pc : Nat
 power : List Int
 na : Option Addr
 nc : Nat
 nodes : List Nd
 h0 : Hb
 h1 : Hb
structure Wd.Right (x : Wd) : Prop where
 lo : 3 ≤ x.n
 hi : x.n ≤ 8
 tick : 0 ≤ x.tick ∧ x.tick ≤ Wm.mostCount
 fault : Flt.may x.n x.c x.v = true
 pl : x.power.length = x.n
 pw : ∀ i, i < x.n → 0 ≤ x.power.getD i 0 ∧ x.power.getD i 0 ≤ 2000
 nl : x.nodes.length = x.n
 nd : ∀ i, i < x.n → Wm.NRight x.n i (ndAt x.nodes i)
 r0 : Wm.Right x.n x.h0
 r1 : Wm.Right x.n x.h1
structure Wd.There (w : World) (x : Wd) : Prop where
 power : Whole w x.pa x.n x.power
 nodes : Nodes w x.na x.n x.nodes
theorem Wd.There.below {w W : World} {x : Wd} (h : Wd.There w x) (hb : Below w.heap.size w W) : Wd.There W x := ⟨h.power.below hb, h.nodes.below hb⟩
theorem Nodes.at_ {w : World} {A : Option Addr} {n : Nat} {l : List Nd} (h : Nodes w A n l) {q : Nat} (hq : q < n) : ∃ b off, A = some ⟨b, off, none⟩ ∧ b < w.heap.size ∧
  w.cell? ⟨b, off + q * 4, none⟩ = some (.int .i64 (ndAt l q).id) ∧ w.cell? ⟨b, off + q * 4 + 1, none⟩ = some (.int .i64 (ndAt l q).md) ∧ w.cell? ⟨b, off + q * 4 + 2, none⟩ = some (.int .i64 (ndAt l q).ct) ∧ w.cell? ⟨b, off + q * 4 + 3, none⟩ = some (.int .i64 (ndAt l q).ps) := by
 obtain ⟨b, off, rfl, hb, hrow⟩ := h.row (by omega)
 have hl : q < l.length := by rw [h.len]; exact hq
 have hx : l[q]? = some (ndAt l q) := by unfold ndAt; rw [List.getD_eq_getElem?_getD, List.getElem?_eq_getElem hl]; rfl
 obtain ⟨h0, h1, h2, h3⟩ := hrow q _ hx
 exact ⟨b, off, rfl, hb, h0, h1, h2, h3⟩
end Go.Proofs.YtgiojagdmglinaaGreatDoor
namespace Go.Proofs.YtgiojagdmglinaaGreatDoor
open Go.RowKit
namespace Cf
def Of (name : ByteArray) (k : Int) : Prop := ∃ i : Nat, Instr.findNow .string (.string name) table.toList 0 = some (some (i, .int .i64 k))
set_option maxHeartbeats 400000 in
theorem time_calls (name : ByteArray) (k n : Int) (w : World) (h3 : 3 ≤ n) (h8 : n ≤ 8) (hk : Of name k) (h0 : 0 ≤ k ∧ k ≤ 96) : Calls Tryz.prog 46 #[.string name, .int .i64 n] w fun e w' => e = .returned (.int .i64 (k * n)) ∧ w' = w.alloc (.map table 7) := by
 obtain ⟨hk0, hk1⟩ := h0
 have m0 : 0 ≤ k * n := Int.mul_nonneg hk0 (by omega)
 have m1 : k * n ≤ 96 * 8 := Int.mul_le_mul hk1 h8 (by omega) (by omega)
 have lk : (Instr.lookup 121 (.map (some w.heap.size)) (.string name) false).run Tryz.prog (w.alloc (.map table 7)) = .ok (.int .i64 k) (w.alloc (.map table 7)) := by
  obtain ⟨i, hi⟩ := hk
  exact Mp.look tMap tStr (c := 7) (show (w.heap.push (.map table 7))[w.heap.size]? = some (.map table 7) from by simp) trivial hi
 have HK := Lib.hid hk
 clear hk
 have kr := right_calls n w h3 h8
 have KR := Lib.hid kr
 clear kr
 go_enter Tryz.func46, Tryz.ntmps46
 go_wp2_with fail
 refine KR.out.mono ?_
 rintro e w' ⟨rfl, rfl⟩
 go_wp2_with fail
 refine (rounds_calls w).mono ?_
 rintro e w' ⟨rfl, rfl⟩
 go_wp2_with fail
 go_ret
 exact ⟨rfl, rfl⟩
end Cf
end Go.Proofs.YtgiojagdmglinaaGreatDoor
namespace Go.Proofs.YtgiojagdmglinaaGreatDoor
open Go.RowKit
namespace Cf
set_option maxHeartbeats 400000 in
theorem block_calls (n : Int) (w : World) (h3 : 3 ≤ n) (h8 : n ≤ 8) : Calls Tryz.prog 108 #[.int .i64 n] w fun e w' => e = .returned (.int .i64 (2 * n)) ∧ Below w.heap.size w w' := by
 have kt := time_calls ⟨#[98, 108, 111, 99, 107]⟩ 2 n w h3 h8 ⟨0, rfl⟩ (by omega)
 have KT := Lib.hid kt
 clear kt
 go_enter Tryz.func108, Tryz.ntmps108
 go_wp2_with fail
 refine KT.out.mono ?_
 rintro e w' ⟨rfl, rfl⟩
 go_wp2_with fail
 go_ret
 exact ⟨rfl, (Below.refl _ _).alloc (Nat.le_refl _) _⟩
set_option maxHeartbeats 400000 in
theorem watch_calls (n : Int) (w : World) (h3 : 3 ≤ n) (h8 : n ≤ 8) : Calls Tryz.prog 150 #[.int .i64 n] w fun e w' => e = .returned (.int .i64 (8 * n)) ∧ Below w.heap.size w w' := by
 have kt := time_calls ⟨#[119, 97, 116, 99, 104]⟩ 8 n w h3 h8 ⟨1, rfl⟩ (by omega)
 have KT := Lib.hid kt
 clear kt
 go_enter Tryz.func150, Tryz.ntmps150
 go_wp2_with fail
 refine KT.out.mono ?_
 rintro e w' ⟨rfl, rfl⟩
 go_wp2_with fail
 go_ret
 exact ⟨rfl, (Below.refl _ _).alloc (Nat.le_refl _) _⟩
set_option maxHeartbeats 400000 in
theorem later_calls (n : Int) (w : World) (h3 : 3 ≤ n) (h8 : n ≤ 8) : Calls Tryz.prog 21 #[.int .i64 n] w fun e w' => e = .returned (.int .i64 (3 * n)) ∧ Below w.heap.size w w' := by
 have kt := time_calls ⟨#[108, 97, 116, 101, 114]⟩ 3 n w h3 h8 ⟨2, rfl⟩ (by omega)
 have KT := Lib.hid kt
 clear kt
 go_enter Tryz.func21, Tryz.ntmps21
 go_wp2_with fail
 refine KT.out.mono ?_
 rintro e w' ⟨rfl, rfl⟩
 go_wp2_with fail
 go_ret
 exact ⟨rfl, (Below.refl _ _).alloc (Nat.le_refl _) _⟩
set_option maxHeartbeats 400000 in
theorem own_calls (name : ByteArray) (k n j : Int) (w : World) (h3 : 3 ≤ n) (h8 : n ≤ 8) (hj0 : 0 ≤ j) (hj1 : j < n) (hk : Of name k) (h0 : 0 ≤ k ∧ k ≤ 96) : Calls Tryz.prog 122 #[.string name, .int .i64 n, .int .i64 j] w fun e w' => e = .returned (.tuple #[.int .i64 (k * n + j + 1), .int .i64 0]) ∧ Below w.heap.size w w' := by
 have kt := time_calls name k n w h3 h8 hk h0
 obtain ⟨hk0, hk1⟩ := h0
 have m0 : 0 ≤ k * n := Int.mul_nonneg hk0 (by omega)
 have m1 : k * n ≤ 96 * 8 := Int.mul_le_mul hk1 h8 (by omega) (by omega)
 have HK := Lib.hid hk
 clear hk
 have KT := Lib.hid kt
 clear kt
 have kr := right_calls n w h3 h8
 have KR := Lib.hid kr
 clear kr
 have g1 : decide (j < 0) = false := decide_eq_false (by omega)
 have g2 : decide (j ≥ n) = false := decide_eq_false (by omega)
 go_enter Tryz.func122, Tryz.ntmps122
 go_wp2_with fail
 refine KR.out.mono ?_
 rintro e w' ⟨rfl, rfl⟩
 go_wp2_with fail
 refine KT.out.mono ?_
 rintro e w' ⟨rfl, rfl⟩
 go_wp2_with fail
 go_ret2
 exact ⟨rfl, (Below.refl _ _).alloc (Nat.le_refl _) _⟩
set_option maxHeartbeats 400000 in
theorem listen_calls (n j : Int) (w : World) (h3 : 3 ≤ n) (h8 : n ≤ 8) (hj0 : 0 ≤ j) (hj1 : j < n) : Calls Tryz.prog 110 #[.int .i64 n, .int .i64 j] w fun e w' => e = .returned (.tuple #[.int .i64 (4 * n + j + 1), .int .i64 0]) ∧ Below w.heap.size w w' := by
 have kt := own_calls ⟨#[108, 105, 115, 116, 101, 110]⟩ 4 n j w h3 h8 hj0 hj1 ⟨5, rfl⟩ (by omega)
 have KT := Lib.hid kt
 clear kt
 go_enter Tryz.func110, Tryz.ntmps110
 go_wp2_with fail
 refine KT.out.mono ?_
 rintro e w' ⟨rfl, hb⟩
 have HB := Lib.hid hb
 clear hb
 go_wp2_with fail
 go_ret2
 exact ⟨rfl, HB.out⟩
set_option maxHeartbeats 400000 in
theorem cold_calls (n j : Int) (w : World) (h3 : 3 ≤ n) (h8 : n ≤ 8) (hj0 : 0 ≤ j) (hj1 : j < n) : Calls Tryz.prog 109 #[.int .i64 n, .int .i64 j] w fun e w' => e = .returned (.tuple #[.int .i64 (2 * n + j + 1), .int .i64 0]) ∧ Below w.heap.size w w' := by
 have kt := own_calls ⟨#[99, 111, 108, 100]⟩ 2 n j w h3 h8 hj0 hj1 ⟨6, rfl⟩ (by omega)
 have KT := Lib.hid kt
 clear kt
 go_enter Tryz.func109, Tryz.ntmps109
 go_wp2_with fail
 refine KT.out.mono ?_
 rintro e w' ⟨rfl, hb⟩
 have HB := Lib.hid hb
 clear hb
 go_wp2_with fail
 go_ret2
 exact ⟨rfl, HB.out⟩
end Cf
end Go.Proofs.YtgiojagdmglinaaGreatDoor
namespace Go.Proofs.YtgiojagdmglinaaGreatDoor
open Go.RowKit
namespace Nod
set_option maxHeartbeats 400000 in
theorem mod_calls (n p : Int) (w : World) (h3 : 3 ≤ n) (h8 : n ≤ 8) (hp0 : 0 ≤ p) (hp1 : p < n) : Calls Tryz.prog 88 #[.int .i64 n, .int .i64 p] w fun e w' => e = .returned (.int .i64 p) ∧ w = w' := by
 have e : p.tmod n = p := Int.tmod_eq_of_lt hp0 hp1
 have z : ¬ n = 0 := by omega
 have g : decide (p < 0) = false := decide_eq_false (by omega)
 go_enter Tryz.func88, Tryz.ntmps88
 go_wp2_with fail
 go_ret
 exact ⟨rfl, rfl⟩
set_option maxHeartbeats 400000 in
theorem fresh_calls (n j : Int) (w : World) (h3 : 3 ≤ n) (h8 : n ≤ 8) (hj0 : 0 ≤ j) (hj1 : j < n) : Calls Tryz.prog 58 #[.int .i64 n, .int .i64 j] w fun e w' => e = .returned (.tuple #[.agg #[.int .i64 j, .int .i64 0, .int .i64 0, .int .i64 0], .int .i64 0]) ∧ Below w.heap.size w w' := by
 have kr : ∀ W, Calls Tryz.prog 14 #[.int .i64 n] W fun e w' => e = .returned (.bool true) ∧ W = w' := fun W => Cf.right_calls n W h3 h8
 have KR := Lib.hid kr
 clear kr
 have g1 : decide (j < 0) = false := decide_eq_false (by omega)
 have g2 : decide (j ≥ n) = false := decide_eq_false (by omega)
 go_enter Tryz.func58, Tryz.ntmps58
 go_wp2_with fail
 refine (KR.out _).mono ?_
 rintro e w' ⟨rfl, rfl⟩
 go_wp2_with fail
 refine bodyPost_ret (v := .tuple #[.agg #[.int .i64 j, .int .i64 0, .int .i64 0, .int .i64 0], .int .i64 0]) (by simp [results, Tryz.results58, go_sem]) rfl ⟨rfl, ?_⟩
 exact (Below.refl _ _).alloc (Nat.le_refl _) _
set_option maxHeartbeats 400000 in
theorem wake_calls (j a b c : Int) (w : World) : Calls Tryz.prog 101 #[.agg #[.int .i64 j, .int .i64 a, .int .i64 b, .int .i64 c]] w fun e w' => e = .returned (.agg #[.int .i64 j, .int .i64 1, .int .i64 0, .int .i64 0]) ∧ Below w.heap.size w w' := by
 go_enter Tryz.func101, Tryz.ntmps101
 go_wp2_with fail
 refine bodyPost_ret (v := .agg #[.int .i64 j, .int .i64 1, .int .i64 0, .int .i64 0]) (by simp [results, Tryz.results101, go_sem]) rfl ⟨rfl, ?_⟩
 exact Kit.alloc2 ..
set_option maxHeartbeats 400000 in
theorem wait_calls (n j m b c : Int) (w : World) (h3 : 3 ≤ n) (h8 : n ≤ 8) (hj0 : 0 ≤ j) (hj1 : j < n) : Calls Tryz.prog 91 #[.int .i64 n, .agg #[.int .i64 j, .int .i64 m, .int .i64 b, .int .i64 c]] w fun e w' => e = .returned (.int .i64 ((if m = 1 then 4 * n else 2 * n) + j + 1)) ∧ Below w.heap.size w w' := by
 have kl : ∀ W, Calls Tryz.prog 110 #[.int .i64 n, .int .i64 j] W fun e w' => e = .returned (.tuple #[.int .i64 (4 * n + j + 1), .int .i64 0]) ∧ Below W.heap.size W w' := fun W => Cf.listen_calls n j W h3 h8 hj0 hj1
 have kc : ∀ W, Calls Tryz.prog 109 #[.int .i64 n, .int .i64 j] W fun e w' => e = .returned (.tuple #[.int .i64 (2 * n + j + 1), .int .i64 0]) ∧ Below W.heap.size W w' := fun W => Cf.cold_calls n j W h3 h8 hj0 hj1
 have KL := Lib.hid kl
 have KC := Lib.hid kc
 clear kl kc
 by_cases hm : m = 1
 ·rw [if_pos hm]
  have g : (m == 1) = true := by rw [hm]; rfl
  clear hm
  go_enter Tryz.func91, Tryz.ntmps91
  go_wp2_with fail
  refine (KL.out _).mono ?_
  rintro e w' ⟨rfl, hb⟩
  have HB := Lib.hid hb
  clear hb
  go_wp2_with fail
  go_ret
  exact ⟨rfl, (Kit.alloc1 ..).trans (HB.out.mono (by simp))⟩
 ·rw [if_neg hm]
  have g : (m == 1) = false := beq_eq_false_iff_ne.2 hm
  clear hm
  go_enter Tryz.func91, Tryz.ntmps91
  go_wp2_with fail
  refine (KC.out _).mono ?_
  rintro e w' ⟨rfl, hb⟩
  have HB := Lib.hid hb
  clear hb
  go_wp2_with fail
  go_ret
  exact ⟨rfl, (Kit.alloc1 ..).trans (HB.out.mono (by simp))⟩
end Nod
end Go.Proofs.YtgiojagdmglinaaGreatDoor
namespace Go.Proofs.YtgiojagdmglinaaGreatDoor
open Go.RowKit
namespace Nod
set_option maxHeartbeats 1000000 in
theorem right_calls (n j m b c : Int) (w : World) (h3 : 3 ≤ n) (h8 : n ≤ 8) (hj0 : 0 ≤ j) (hj1 : j < n) (hm : 0 ≤ m ∧ m ≤ 3) (hb0 : 0 ≤ b) (hb1 : b ≤ 1073741824) (hc0 : 0 ≤ c) (hc1 : c < n) (hi : m = 0 → b = 0) (hr : m ≠ 3 → c = 0) :
  Calls Tryz.prog 63 #[.int .i64 n, .agg #[.int .i64 j, .int .i64 m, .int .i64 b, .int .i64 c]] w fun e w' => e = .returned (.bool true) ∧ Below w.heap.size w w' := by
 have kf : ∀ W, Calls Tryz.prog 58 #[.int .i64 n, .int .i64 j] W fun e w' => e = .returned (.tuple #[.agg #[.int .i64 j, .int .i64 0, .int .i64 0, .int .i64 0], .int .i64 0]) ∧ Below W.heap.size W w' := fun W => fresh_calls n j W h3 h8 hj0 hj1
 have kc : ∀ W, Calls Tryz.prog 62 #[.int .i64 b, .int .i64 0, .int .i64 1073741824] W fun e w' => e = .returned (.int .i64 b) ∧ W = w' := fun W => (by
  have h := Tal.clamp_calls b 0 1073741824 W
  unfold Tal.clamp at h
  rwa [if_neg (by omega), Int.min_eq_left hb1] at h)
 have km : ∀ W, Calls Tryz.prog 88 #[.int .i64 n, .int .i64 c] W fun e w' => e = .returned (.int .i64 c) ∧ W = w' := fun W => mod_calls n c W h3 h8 hc0 hc1
 have KF := Lib.hid kf
 have KC := Lib.hid kc
 have KM := Lib.hid km
 clear kf kc km
 obtain ⟨hm0, hm1⟩ := hm
 have gb : (b != b) = false := by simp
 have HI := Lib.hid hi
 have HR := Lib.hid hr
 clear hi hr
 go_enter Tryz.func63, Tryz.ntmps63
 go_wp2_with fail
 refine (KF.out _).mono ?_
 rintro e w1 ⟨rfl, hb⟩
 have c0 := Kit.cell_new hb 0 rfl
 have c1 := Kit.cell_new hb 1 rfl
 have c2 := Kit.cell_new hb 2 rfl
 have c3 := Kit.cell_new hb 3 rfl
 have HB := Lib.hid ((Kit.alloc1 ..).trans (hb.mono (by simp)))
 clear hb
 have hlt := World.block_lt_of_cell? w1 ⟨w.heap.size, 0, none⟩ c0
 go_wp2_with fail
 go_region_held3 (fun w' => w'.cell? ⟨w.heap.size, 2, none⟩ = some (.int .i64 b)) (go_keep) ((go_at_call 62; refine (KC.out _).mono ?_; rintro e wn ⟨rfl, rfl⟩))
 have hA := HB.out.alloc HB.out.size (.cells #[.int .i64 j, .int .i64 0, .int .i64 0, .int .i64 0] 60)
 have HA := Lib.hid hA.drew
 clear hA
 have gc : (c == c) = true := by simp
 obtain hq | hq | hq | hq : m = 0 ∨ m = 1 ∨ m = 2 ∨ m = 3 := by omega
 ·subst hq
  obtain rfl := HI.out rfl
  obtain rfl := HR.out (by omega)
  go_wp2_with fail
  go_ret
  exact ⟨rfl, HA.out⟩
 ·subst hq
  obtain rfl := HR.out (by omega)
  go_wp2_with fail
  go_ret
  exact ⟨rfl, HA.out⟩
 ·subst hq
  obtain rfl := HR.out (by omega)
  go_wp2_with fail
  go_ret
  exact ⟨rfl, HA.out⟩
 ·subst hq
  go_wp2_with fail
  go_region_held3 (fun w' => w'.cell? ⟨w.heap.size, 3, none⟩ = some (.int .i64 c)) (go_keep) ((go_at_call 88; refine (KM.out _).mono ?_; rintro e wn ⟨rfl, rfl⟩))
  go_wp2_with fail
  go_ret
  exact ⟨rfl, HA.out.drew⟩
end Nod
end Go.Proofs.YtgiojagdmglinaaGreatDoor
namespace Go.Proofs.YtgiojagdmglinaaGreatDoor
open Go.RowKit
namespace Say
theorem free_two {w w1 : World} {cs cs2 : Array Value} {e e2 : TypeId} (h : Below ((w.alloc (.cells cs e)).alloc (.cells cs2 e2)).heap.size ((w.alloc (.cells cs e)).alloc (.cells cs2 e2)) w1) (i : Nat) : w1.frozen? ⟨w.heap.size + 1, i, none⟩ = false := by
 have k := Kit.free_new (w := w.alloc (.cells cs e)) h i
 simpa using k
set_option maxHeartbeats 1000000 in
theorem own_calls (n j b : Int) (w : World) (h3 : 3 ≤ n) (h8 : n ≤ 8) (hj0 : 0 ≤ j) (hj1 : j < n) (hb0 : 0 ≤ b) (hb1 : b ≤ 1073741824) :
  Calls Tryz.prog 66 #[.int .i64 n, .agg #[.int .i64 j, .int .i64 3, .int .i64 b, .int .i64 j]] w fun e w' => e = .returned (.tuple #[.agg #[.int .i64 2, .int .i64 j], .int .i64 0]) ∧ Below w.heap.size w w' := by
 have kr : ∀ W, Calls Tryz.prog 63 #[.int .i64 n, .agg #[.int .i64 j, .int .i64 3, .int .i64 b, .int .i64 j]] W fun e w' => e = .returned (.bool true) ∧ Below W.heap.size W w' := fun W => Nod.right_calls n j 3 b j W h3 h8 hj0 hj1 (by omega) hb0 hb1 hj0 hj1 (by omega) (by omega)
 have KR := Lib.hid kr
 clear kr
 have gj : (j == j) = true := by simp
 go_enter Tryz.func66, Tryz.ntmps66
 go_wp2_with fail
 refine (KR.out _).mono ?_
 rintro e w1 ⟨rfl, b1⟩
 have c0 := Kit.cell_old b1 0 rfl
 have c1 := Kit.cell_old b1 1 rfl
 have c2 := Kit.cell_old b1 2 rfl
 have c3 := Kit.cell_old b1 3 rfl
 have p0 := Kit.cell_two b1 0 rfl
 have p1 := Kit.cell_two b1 1 rfl
 have hlt := Kit.lt_two b1
 have B1 := Lib.hid (Kit.chain (Kit.alloc2 ..) b1)
 have f0 := free_two b1 0
 have f1 := free_two b1 1
 clear b1
 go_wp2_with fail
 refine bodyPost_ret (v := .tuple #[.agg #[.int .i64 2, .int .i64 j], .int .i64 0]) (by simp [results, Tryz.results66, go_sem, p0, p1, hlt]) rfl ⟨rfl, ?_⟩
 repeat' (first | (with_reducible exact B1.out) | (with_reducible refine Below.setCell ?_ ?_ _) | (with_reducible refine Below.alloc ?_ ?_ _) | (with_reducible refine Below.drew ?_))
 all_goals (first | omega | (simp; done) | (simp; omega))
end Say
end Go.Proofs.YtgiojagdmglinaaGreatDoor
namespace Go.Proofs.YtgiojagdmglinaaGreatDoor
open Go.RowKit
namespace Say
set_option maxHeartbeats 1000000 in
theorem init_calls (n j : Int) (w : World) (h3 : 3 ≤ n) (h8 : n ≤ 8) (hj0 : 0 ≤ j) (hj1 : j < n) :
  Calls Tryz.prog 66 #[.int .i64 n, .agg #[.int .i64 j, .int .i64 0, .int .i64 0, .int .i64 0]] w fun e w' => e = .returned (.tuple #[.agg #[.int .i64 0, .int .i64 0], .int .i64 0]) ∧ Below w.heap.size w w' := by
 have kr : ∀ W, Calls Tryz.prog 63 #[.int .i64 n, .agg #[.int .i64 j, .int .i64 0, .int .i64 0, .int .i64 0]] W fun e w' => e = .returned (.bool true) ∧ Below W.heap.size W w' := fun W => Nod.right_calls n j 0 0 0 W h3 h8 hj0 hj1 (by omega) (by omega) (by omega) (by omega) (by omega) (by omega) (by omega)
 have KR := Lib.hid kr
 clear kr
 go_enter Tryz.func66, Tryz.ntmps66
 go_wp2_with fail
 refine (KR.out _).mono ?_
 rintro e w1 ⟨rfl, b1⟩
 have c0 := Kit.cell_old b1 0 rfl
 have c1 := Kit.cell_old b1 1 rfl
 have c2 := Kit.cell_old b1 2 rfl
 have c3 := Kit.cell_old b1 3 rfl
 have p0 := Kit.cell_two b1 0 rfl
 have p1 := Kit.cell_two b1 1 rfl
 have hlt := Kit.lt_two b1
 have B1 := Lib.hid (Kit.chain (Kit.alloc2 ..) b1)
 have f0 := free_two b1 0
 have f1 := free_two b1 1
 clear b1
 go_wp2_with fail
 refine wp_region_held_drew (S := (fun w' => w'.cell? ⟨w.heap.size, 0, none⟩ = some (.int .i64 j) ∧ w'.cell? ⟨w.heap.size, 1, none⟩ = some (.int .i64 0) ∧ w'.cell? ⟨w.heap.size, 2, none⟩ = some (.int .i64 0) ∧ w'.cell? ⟨w.heap.size, 3, none⟩ = some (.int .i64 0))) (by kernel_rfl) ?_ (fun hHeld => ?_)
 ·go_keep
 refine Rgn.tk 0 rfl ?_
 try simp only [Act.put, Rgn.a, Rgn.b, Rgn.c]
 refine Rgn.tk 1 rfl ?_
 try simp only [Act.put, Rgn.a, Rgn.b, Rgn.c]
 refine Rgn.tk 2 rfl ?_
 try simp only [Act.put, Rgn.a, Rgn.b, Rgn.c]
 refine Rgn.tk 3 rfl ?_
 try simp only [Act.put, Rgn.a, Rgn.b, Rgn.c]
 refine Rgn.tk 4 rfl ?_
 try simp only [Act.put, Rgn.a, Rgn.b, Rgn.c]
 refine Rgn.tk 5 rfl ?_
 try simp only [Act.put, Rgn.a, Rgn.b, Rgn.c]
 refine Rgn.tk 6 rfl ?_
 try simp only [Act.put, Rgn.a, Rgn.b, Rgn.c]
 refine Rgn.tk 7 rfl ?_
 try simp only [Act.put, Rgn.a, Rgn.b, Rgn.c]
 refine Rgn.tk 8 rfl ?_
 try simp only [Act.put, Rgn.a, Rgn.b, Rgn.c]
 refine Rgn.sk 9 rfl ?_
 try simp only [Act.put, Rgn.a, Rgn.b, Rgn.c]
 refine Rgn.sk 10 rfl ?_
 try simp only [Act.put, Rgn.a, Rgn.b, Rgn.c]
 refine Rgn.sk 11 rfl ?_
 try simp only [Act.put, Rgn.a, Rgn.b, Rgn.c]
 refine Rgn.sk 12 rfl ?_
 try simp only [Act.put, Rgn.a, Rgn.b, Rgn.c]
 refine Rgn.sk 13 rfl ?_
 try simp only [Act.put, Rgn.a, Rgn.b, Rgn.c]
 refine Rgn.sk 14 rfl ?_
 try simp only [Act.put, Rgn.a, Rgn.b, Rgn.c]
 refine Rgn.tk 15 rfl ?_
 try simp only [Act.put, Rgn.a, Rgn.b, Rgn.c]
 refine Rgn.tk 16 rfl ?_
 try simp only [Act.put, Rgn.a, Rgn.b, Rgn.c]
 refine wpAnyH_done (by kernel_rfl) ?_ _
 go_wp2_with fail
 refine bodyPost_ret (v := .tuple #[.agg #[.int .i64 0, .int .i64 0], .int .i64 0]) (by simp [results, Tryz.results66, go_sem, p0, p1, hlt]) rfl ⟨rfl, ?_⟩
 refine Below.drew ?_
 repeat' (first | (with_reducible exact B1.out) | (with_reducible refine Below.setCell ?_ ?_ _) | (with_reducible refine Below.alloc ?_ ?_ _) | (with_reducible refine Below.drew ?_))
 all_goals (first | omega | (simp; done) | (simp; omega))
set_option maxHeartbeats 1000000 in
theorem other_calls (n j b c : Int) (w : World) (h3 : 3 ≤ n) (h8 : n ≤ 8) (hj0 : 0 ≤ j) (hj1 : j < n) (hb0 : 0 ≤ b) (hb1 : b ≤ 1073741824) (hc0 : 0 ≤ c) (hc1 : c < n) (hne : c ≠ j) :
  Calls Tryz.prog 66 #[.int .i64 n, .agg #[.int .i64 j, .int .i64 3, .int .i64 b, .int .i64 c]] w fun e w' => e = .returned (.tuple #[.agg #[.int .i64 0, .int .i64 0], .int .i64 0]) ∧ Below w.heap.size w w' := by
 have kr : ∀ W, Calls Tryz.prog 63 #[.int .i64 n, .agg #[.int .i64 j, .int .i64 3, .int .i64 b, .int .i64 c]] W fun e w' => e = .returned (.bool true) ∧ Below W.heap.size W w' := fun W => Nod.right_calls n j 3 b c W h3 h8 hj0 hj1 (by omega) (by omega) (by omega) (by omega) (by omega) (by omega) (by omega)
 have KR := Lib.hid kr
 clear kr
 have gj : (c == j) = false := beq_eq_false_iff_ne.2 hne
 clear hne
 go_enter Tryz.func66, Tryz.ntmps66
 go_wp2_with fail
 refine (KR.out _).mono ?_
 rintro e w1 ⟨rfl, b1⟩
 have c0 := Kit.cell_old b1 0 rfl
 have c1 := Kit.cell_old b1 1 rfl
 have c2 := Kit.cell_old b1 2 rfl
 have c3 := Kit.cell_old b1 3 rfl
 have p0 := Kit.cell_two b1 0 rfl
 have p1 := Kit.cell_two b1 1 rfl
 have hlt := Kit.lt_two b1
 have B1 := Lib.hid (Kit.chain (Kit.alloc2 ..) b1)
 have f0 := free_two b1 0
 have f1 := free_two b1 1
 clear b1
 go_wp2_with fail
 refine wp_region_held_drew (S := (fun w' => w'.cell? ⟨w.heap.size, 0, none⟩ = some (.int .i64 j) ∧ w'.cell? ⟨w.heap.size, 1, none⟩ = some (.int .i64 3) ∧ w'.cell? ⟨w.heap.size, 2, none⟩ = some (.int .i64 b) ∧ w'.cell? ⟨w.heap.size, 3, none⟩ = some (.int .i64 c))) (by kernel_rfl) ?_ (fun hHeld => ?_)
 ·go_keep
 refine Rgn.tk 0 rfl ?_
 try simp only [Act.put, Rgn.a, Rgn.b, Rgn.c]
 refine Rgn.tk 1 rfl ?_
 try simp only [Act.put, Rgn.a, Rgn.b, Rgn.c]
 refine Rgn.tk 2 rfl ?_
 try simp only [Act.put, Rgn.a, Rgn.b, Rgn.c]
 refine Rgn.tk 3 rfl ?_
 try simp only [Act.put, Rgn.a, Rgn.b, Rgn.c]
 refine Rgn.tk 4 rfl ?_
 try simp only [Act.put, Rgn.a, Rgn.b, Rgn.c]
 refine Rgn.tk 5 rfl ?_
 try simp only [Act.put, Rgn.a, Rgn.b, Rgn.c]
 refine Rgn.tk 6 rfl ?_
 try simp only [Act.put, Rgn.a, Rgn.b, Rgn.c]
 refine Rgn.tk 7 rfl ?_
 try simp only [Act.put, Rgn.a, Rgn.b, Rgn.c]
 refine Rgn.tk 8 rfl ?_
 try simp only [Act.put, Rgn.a, Rgn.b, Rgn.c]
 refine Rgn.sk 9 rfl ?_
 try simp only [Act.put, Rgn.a, Rgn.b, Rgn.c]
 refine Rgn.sk 10 rfl ?_
 try simp only [Act.put, Rgn.a, Rgn.b, Rgn.c]
 refine Rgn.sk 11 rfl ?_
 try simp only [Act.put, Rgn.a, Rgn.b, Rgn.c]
 refine Rgn.sk 12 rfl ?_
 try simp only [Act.put, Rgn.a, Rgn.b, Rgn.c]
 refine Rgn.sk 13 rfl ?_
 try simp only [Act.put, Rgn.a, Rgn.b, Rgn.c]
 refine Rgn.sk 14 rfl ?_
 try simp only [Act.put, Rgn.a, Rgn.b, Rgn.c]
 refine Rgn.tk 15 rfl ?_
 try simp only [Act.put, Rgn.a, Rgn.b, Rgn.c]
 refine Rgn.tk 16 rfl ?_
 try simp only [Act.put, Rgn.a, Rgn.b, Rgn.c]
 refine wpAnyH_done (by kernel_rfl) ?_ _
 go_wp2_with fail
 refine bodyPost_ret (v := .tuple #[.agg #[.int .i64 0, .int .i64 0], .int .i64 0]) (by simp [results, Tryz.results66, go_sem, p0, p1, hlt]) rfl ⟨rfl, ?_⟩
 refine Below.drew ?_
 repeat' (first | (with_reducible exact B1.out) | (with_reducible refine Below.setCell ?_ ?_ _) | (with_reducible refine Below.alloc ?_ ?_ _) | (with_reducible refine Below.drew ?_))
 all_goals (first | omega | (simp; done) | (simp; omega))
end Say
end Go.Proofs.YtgiojagdmglinaaGreatDoor
