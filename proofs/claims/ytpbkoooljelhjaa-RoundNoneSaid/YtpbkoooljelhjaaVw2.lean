/-
  The walks of package view, second part: Active, All, slices.IndexFunc and ContainsFunc over places, Slot, Changed.
-/
import Derived.Test.YtpbkoooljelhjaaVw1
namespace Go.Proofs.Ytpbkoooljelhjaa
set_option linter.unusedVariables false
set_option linter.unusedSimpArgs false
open Go.RowKit

set_option maxHeartbeats 400000 in
set_option maxRecDepth 100000 in
/-- slices.IndexFunc over places. -/
theorem Vw.ifunc_calls (A : Option Addr) (n cap : Nat) (l : List Nat) (g : Nat) (lb : Array Value) (p : Nat → Bool) (w : World) (hl : Vw.Ints w A n l) (hn : n ≤ 1000000)
    (eg : ∀ args w, (callFunc g args).run Try.prog w = .ok (.enter g args) w)
    (hp : ∀ (W : World) (x : Nat), Below w.heap.size w W → x ∈ l → Calls Try.prog g (#[.int .i64 (x : Int)] ++ lb) W fun e w' => e = .returned (.bool (p x)) ∧ Below W.heap.size W w') :
    Calls Try.prog 116 #[.slice A n cap, .func (.func g) #[] lb] w fun e w' => e = .returned (.int .i64 (Vw.idx p l)) ∧ Below w.heap.size w w' := by
  have HL := Lib.hid hl
  have HP : Hid (∀ (W : World) (x : Nat), Below w.heap.size w W → x ∈ l → Calls Try.prog g (#[.int .i64 (x : Int)] ++ lb) W fun e w' => e = .returned (.bool (p x)) ∧ Below W.heap.size W w') := Lib.hid hp
  clear hl hp
  go_enter Try.func116, Try.ntmps116
  go_wp2_with fail
  go_loopw [5, 8] (fun _ vi wr => ∃ k : Nat, k ≤ n ∧ vi = .int .i64 k ∧ Hid (Below w.heap.size w wr) ∧ Hid (∀ (j : Nat) (y : Nat), j < k → l[j]? = some y → p y = false)) (fun _ vi _ => n - (intOf vi).toNat)
  case atStart => exact ⟨0, by omega, rfl, Lib.hid (Below.refl _ _), Lib.hid (fun j y h => absurd h (by omega))⟩
  case round =>
    obtain ⟨k, hk, rfl, HB, HA⟩ := hrel
    by_cases hlt : k < n
    · obtain ⟨b, off, rfl, hb, hrow⟩ := HL.out.at_ (by omega)
      have hkl : k < l.length := by rw [HL.out.len]; exact hlt
      obtain ⟨x, hx⟩ : ∃ x, l[k]? = some x := ⟨_, List.getElem?_eq_getElem hkl⟩
      have m0 := (HB.out.cell (p := ⟨b, off + k, none⟩) hb).trans (hrow k x hx)
      have cs := HP.out wr x HB.out (List.mem_of_getElem? hx)
      have HX := Lib.hid hx
      clear hrow hx
      cases hq : p x with
      | true =>
        rw [hq] at cs
        have HQ := Lib.hid hq
        clear hq
        go_wp2_with fail
        refine cs.mono ?_
        rintro e w1 ⟨rfl, b1⟩
        go_wp2_with fail
        go_ret
        exact ⟨by rw [Vw.idx_hit p l k x HX.out HQ.out HA.out]; rfl, HB.out.trans (b1.mono HB.out.size)⟩
      | false =>
        rw [hq] at cs
        have HA2 : Hid (∀ (j : Nat) (y : Nat), j < k + 1 → l[j]? = some y → p y = false) := Lib.hid (fun j y hj hy => by
          by_cases e : j = k
          · subst e; have := HX.out; rw [this] at hy; injection hy with hy; rw [← hy]; exact hq
          · exact HA.out j y (by omega) hy)
        clear hq
        go_wp2_with fail
        refine cs.mono ?_
        rintro e w1 ⟨rfl, b1⟩
        have B1 := Lib.hid (HB.out.trans (b1.mono HB.out.size))
        clear b1
        go_wp2_with fail
        go_roundw
        case rel => exact ⟨k + 1, by omega, by go_num, B1, HA2⟩
        case measure => simp [intOf]; omega
    · obtain rfl : k = n := by omega
      go_wp2_with fail
      go_ret
      exact ⟨by rw [Vw.idx_miss p l (fun j y hy => HA.out j y (by have := (List.getElem?_eq_some_iff.1 hy).1; rw [HL.out.len] at this; exact this) hy)]; rfl, HB.out⟩

set_option maxHeartbeats 400000 in
set_option maxRecDepth 100000 in
/-- slices.ContainsFunc over places. -/
theorem Vw.cfunc_calls (A : Option Addr) (n cap : Nat) (l : List Nat) (g : Nat) (lb : Array Value) (p : Nat → Bool) (w : World) (hl : Vw.Ints w A n l) (hn : n ≤ 1000000)
    (eg : ∀ args w, (callFunc g args).run Try.prog w = .ok (.enter g args) w)
    (hp : ∀ (W : World) (x : Nat), Below w.heap.size w W → x ∈ l → Calls Try.prog g (#[.int .i64 (x : Int)] ++ lb) W fun e w' => e = .returned (.bool (p x)) ∧ Below W.heap.size W w') :
    Calls Try.prog 91 #[.slice A n cap, .func (.func g) #[] lb] w fun e w' => e = .returned (.bool (l.any p)) ∧ Below w.heap.size w w' := by
  have c1 := Vw.ifunc_calls A n cap l g lb p w hl hn eg hp
  have ha := Vw.idx_any p l
  have HA := Lib.hid ha
  clear ha hl hp
  generalize Vw.idx p l = q at *
  go_enter Try.func91, Try.ntmps91
  go_wp2_with fail
  refine c1.mono ?_
  rintro e w1 ⟨rfl, b1⟩
  go_wp2_with fail
  go_ret
  exact ⟨by rw [← HA.out]; rfl, b1⟩

theorem Vw.so_active (l : List Nd) (w : World) : Vw.So 89 #[] Vw.act l w := fun W i x _ _ => Vw.active_calls _ _ _ _ _ W
theorem Vw.so_all (l : List Nd) (w : World) : Vw.So 90 #[] (fun i x => !Vw.act i x) l w := fun W i x _ _ => Vw.allone_calls _ _ _ _ _ W

set_option maxHeartbeats 400000 in
set_option maxRecDepth 100000 in
/-- view.Active. -/
theorem Vw.vactive_calls (c v : Int) (A : Option Addr) (n cap : Nat) (l : List Nd) (w : World) (hl : Nodes w A n l) (hn : n ≤ 1000000) :
    Calls Try.prog 34 #[.agg #[.int .i64 c, .int .i64 v], .slice A n cap] w (Vw.Row w (Vw.active c v l)) := by
  have c1 := Vw.places_calls c v A n cap l 89 #[] Vw.act _ (hl.below ((Below.refl w.heap.size w).alloc (Nat.le_refl _) (.cells #[.int .i64 c, .int .i64 v] 35))) hn (Kit.enters Try.func89 (by kernel_rfl) rfl) (Vw.so_active l _)
  have hlen := hl.len
  rw [← hlen] at c1
  unfold Vw.active
  rw [hlen] at c1 ⊢
  clear hl hlen
  go_enter Try.func34, Try.ntmps34
  go_wp2_with fail
  refine c1.mono ?_
  rintro e w1 ⟨v1, rfl, hown, b1⟩
  have B1 := Lib.hid b1
  have HO := Lib.hid hown
  clear hown b1
  go_wp2_with fail
  go_ret
  exact ⟨_, rfl, Kit.own_weaken HO.out (by simp), Kit.chain ((Below.refl _ _).alloc (Nat.le_refl _) _) B1.out⟩

set_option maxHeartbeats 400000 in
set_option maxRecDepth 100000 in
/-- view.All. -/
theorem Vw.vall_calls (c v : Int) (A : Option Addr) (n cap : Nat) (l : List Nd) (w : World) (hl : Nodes w A n l) (hn : n ≤ 1000000) :
    Calls Try.prog 35 #[.agg #[.int .i64 c, .int .i64 v], .slice A n cap] w fun e w' => e = .returned (.bool (Vw.all c v l)) ∧ Below w.heap.size w w' := by
  have c1 := Vw.places_calls c v A n cap l 90 #[] (fun i x => !Vw.act i x) _ (hl.below ((Below.refl w.heap.size w).alloc (Nat.le_refl _) (.cells #[.int .i64 c, .int .i64 v] 35))) hn (Kit.enters Try.func90 (by kernel_rfl) rfl) (Vw.so_all l _)
  have hlen := hl.len
  unfold Vw.all
  rw [hlen]
  have hp := Vw.places_len c v (fun i x => !Vw.act i x) l n
  generalize Vw.places c v (fun i x => !Vw.act i x) l n = pl at *
  clear hl hlen
  go_enter Try.func35, Try.ntmps35
  go_wp2_with fail
  refine c1.mono ?_
  rintro e w1 ⟨v1, rfl, hown, b1⟩
  obtain ⟨A1, cap1, rfl, _⟩ := Vw.Ints.of_own hown
  have B1 := Lib.hid b1
  clear hown b1
  go_wp2_with fail
  go_ret
  exact ⟨congrArg Ending.returned (congrArg Value.bool (by rw [Bool.eq_iff_iff, beq_iff_eq, beq_iff_eq]; omega)), Kit.chain ((Below.refl _ _).alloc (Nat.le_refl _) _) B1.out⟩
end Go.Proofs.Ytpbkoooljelhjaa
