/-
  The walks of slices.IndexFunc, ContainsFunc, Index and Contains over frames.
-/
import Derived.Test.YtpbkoooljelhjaaProg
import Derived.Test.YtpbkoooljelhjaaPort0
import Derived.Test.YtpbkoooljelhjaaWm0
import Derived.WalkKit
import Derived.WalkLawsBesides
import Derived.WalkSpells
import Derived.Lib.Hide
import Derived.Deep.LoopGhost
import Derived.Deep.QuietTactic
import Derived.BigQuiet
import Derived.Laws.StructEq
namespace Go.Proofs.Ytpbkoooljelhjaa
set_option linter.unusedVariables false
set_option linter.unusedSimpArgs false
open Go.RowKit

/-- What is asked of a function of frames that is handed on. -/
def Hear.Is (g : Nat) (lb : Array Value) (p : Fr → Bool) (l : List Fr) (w : World) : Prop :=
  ∀ (W : World) (x : Fr), Below w.heap.size w W → x ∈ l → Calls Try.prog g (#[.agg #[.int .i64 x.k, .int .i64 x.i]] ++ lb) W fun e w' => e = .returned (.bool (p x)) ∧ Below W.heap.size W w'

set_option maxHeartbeats 400000 in
set_option maxRecDepth 100000 in
/-- slices.IndexFunc over frames. -/
theorem Hear.ifunc_calls (A : Option Addr) (n cap : Nat) (l : List Fr) (g : Nat) (lb : Array Value) (p : Fr → Bool) (w : World) (hl : Frames w A n l) (hn : n ≤ 1000000)
    (eg : ∀ args w, (callFunc g args).run Try.prog w = .ok (.enter g args) w) (hp : Hear.Is g lb p l w) :
    Calls Try.prog 118 #[.slice A n cap, .func (.func g) #[] lb] w fun e w' => e = .returned (.int .i64 (Vw.idx p l)) ∧ Below w.heap.size w w' := by
  have HL := Lib.hid hl
  have HP : Hid (Hear.Is g lb p l w) := Lib.hid hp
  clear hl hp
  go_enter Try.func118, Try.ntmps118
  go_wp2_with fail
  go_loopw [5, 8] (fun _ vi wr => ∃ k : Nat, k ≤ n ∧ vi = .int .i64 k ∧ Hid (Below w.heap.size w wr) ∧ Hid (∀ (j : Nat) (y : Fr), j < k → l[j]? = some y → p y = false)) (fun _ vi _ => n - (intOf vi).toNat)
  case atStart => exact ⟨0, by omega, rfl, Lib.hid (Below.refl _ _), Lib.hid (fun j y h => absurd h (by omega))⟩
  case round =>
    obtain ⟨k, hk, rfl, HB, HA⟩ := hrel
    by_cases hlt : k < n
    · obtain ⟨b, off, rfl, hb, hrow⟩ := HL.out.row (by omega)
      have hkl : k < l.length := by rw [HL.out.len]; exact hlt
      obtain ⟨x, hx⟩ : ∃ x, l[k]? = some x := ⟨_, List.getElem?_eq_getElem hkl⟩
      have m0 := (HB.out.cell (p := ⟨b, off + k * 2, none⟩) hb).trans (hrow k x hx).1
      have m1 := (HB.out.cell (p := ⟨b, off + k * 2 + 1, none⟩) hb).trans (hrow k x hx).2
      have cs := HP.out wr x HB.out (List.mem_of_getElem? hx)
      have HX := Lib.hid hx
      clear hrow hx
      cases hq : p x with
      | true =>
        rw [hq] at cs
        have HQ := Lib.hid hq
        clear hq
        go_wp2_with fail
        refine cs.mono ?_
        rintro e w1 ⟨rfl, b1⟩
        go_wp2_with fail
        go_ret
        exact ⟨by rw [Vw.idx_hit p l k x HX.out HQ.out HA.out]; rfl, HB.out.trans (b1.mono HB.out.size)⟩
      | false =>
        rw [hq] at cs
        have HA2 : Hid (∀ (j : Nat) (y : Fr), j < k + 1 → l[j]? = some y → p y = false) := Lib.hid (fun j y hj hy => by
          by_cases e : j = k
          · subst e; have := HX.out; rw [this] at hy; injection hy with hy; rw [← hy]; exact hq
          · exact HA.out j y (by omega) hy)
        clear hq
        go_wp2_with fail
        refine cs.mono ?_
        rintro e w1 ⟨rfl, b1⟩
        have B1 := Lib.hid (HB.out.trans (b1.mono HB.out.size))
        clear b1
        go_wp2_with fail
        go_roundw
        case rel => exact ⟨k + 1, by omega, by go_num, B1, HA2⟩
        case measure => simp [intOf]; omega
    · obtain rfl : k = n := by omega
      go_wp2_with fail
      go_ret
      exact ⟨by rw [Vw.idx_miss p l (fun j y hy => HA.out j y (by have := (List.getElem?_eq_some_iff.1 hy).1; rw [HL.out.len] at this; exact this) hy)]; rfl, HB.out⟩

set_option maxHeartbeats 400000 in
set_option maxRecDepth 100000 in
/-- slices.Index over frames. -/
theorem Hear.index_calls (A : Option Addr) (n cap : Nat) (l : List Fr) (z : Fr) (w : World) (hl : Frames w A n l) (hn : n ≤ 1000000) :
    Calls Try.prog 119 #[.slice A n cap, .agg #[.int .i64 z.k, .int .i64 z.i]] w fun e w' => e = .returned (.int .i64 (Vw.idx (fun x => z.k == x.k && z.i == x.i) l)) ∧ Below w.heap.size w w' := by
  have HL := Lib.hid hl
  clear hl
  generalize hpp : (fun x : Fr => z.k == x.k && z.i == x.i) = p
  have HPP := Lib.hid hpp
  clear hpp
  obtain ⟨zk, zi⟩ := z
  go_enter Try.func119, Try.ntmps119
  go_wp2_with fail
  go_loopw [5, 8] (fun _ vi wr => ∃ k : Nat, k ≤ n ∧ vi = .int .i64 k ∧ wr.cell? ⟨w.heap.size, 0, none⟩ = some (.int .i64 zk) ∧ wr.cell? ⟨w.heap.size, 1, none⟩ = some (.int .i64 zi) ∧ Hid (Below w.heap.size w wr) ∧ Hid (∀ (j : Nat) (y : Fr), j < k → l[j]? = some y → p y = false)) (fun _ vi _ => n - (intOf vi).toNat)
  case atStart => exact ⟨0, by omega, rfl, by go_simp, by go_simp, Lib.hid ((Below.refl _ _).alloc (Nat.le_refl _) _), Lib.hid (fun j y h => absurd h (by omega))⟩
  case round =>
    obtain ⟨k, hk, rfl, z0, z1, HB, HA⟩ := hrel
    by_cases hlt : k < n
    · obtain ⟨b, off, rfl, hb, hrow⟩ := HL.out.row (by omega)
      have hkl : k < l.length := by rw [HL.out.len]; exact hlt
      obtain ⟨x, hx⟩ : ∃ x, l[k]? = some x := ⟨_, List.getElem?_eq_getElem hkl⟩
      have m0 := (HB.out.cell (p := ⟨b, off + k * 2, none⟩) hb).trans (hrow k x hx).1
      have m1 := (HB.out.cell (p := ⟨b, off + k * 2 + 1, none⟩) hb).trans (hrow k x hx).2
      have HX := Lib.hid hx
      have hpx : p x = (zk == x.k && zi == x.i) := by rw [← HPP.out]
      clear hrow hx
      by_cases hq : zk = x.k ∧ zi = x.i
      · have hq' : p x = true := by rw [hpx, hq.1, hq.2]; simp
        have HQ := Lib.hid hq'
        have g1 : (zk == x.k) = true := by rw [hq.1]; simp
        have g2 : (zi == x.i) = true := by rw [hq.2]; simp
        clear hq hq' hpx
        go_wp2_with fail
        go_quiet (fail)
        go_wp2_with fail
        go_ret
        exact ⟨by rw [Vw.idx_hit p l k x HX.out HQ.out HA.out]; rfl, HB.out.trans ((Kit.below_drewN _ _).mono HB.out.size)⟩
      · have hq' : p x = false := by rw [hpx]; simp; intro e1 e2; exact hq ⟨e1, e2⟩
        have g3 : (zk == x.k && zi == x.i) = false := by rw [← hpx]; exact hq'
        have HA2 : Hid (∀ (j : Nat) (y : Fr), j < k + 1 → l[j]? = some y → p y = false) := Lib.hid (fun j y hj hy => by
          by_cases e : j = k
          · subst e; have := HX.out; rw [this] at hy; injection hy with hy; rw [← hy]; exact hq'
          · exact HA.out j y (by omega) hy)
        by_cases g1 : zk = x.k
        · have g1' : (zk == x.k) = true := by rw [g1]; simp
          have g2' : (zi == x.i) = false := by rw [beq_eq_false_iff_ne]; exact fun e => hq ⟨g1, e⟩
          clear hq hq' hpx g3 g1
          go_wp2_with fail
          go_quiet (fail)
          go_wp2_with fail
          go_roundw
          case rel => exact ⟨k + 1, by omega, by go_num, by go_simp, by go_simp, Lib.hid (HB.out.trans ((Kit.below_drewN _ _).mono HB.out.size)), HA2⟩
          case measure => simp [intOf]; omega
        · have g1' : (zk == x.k) = false := by rw [beq_eq_false_iff_ne]; exact g1
          clear hq hq' hpx g3 g1
          go_wp2_with fail
          go_quiet (fail)
          go_wp2_with fail
          go_roundw
          case rel => exact ⟨k + 1, by omega, by go_num, by go_simp, by go_simp, Lib.hid (HB.out.trans ((Kit.below_drewN _ _).mono HB.out.size)), HA2⟩
          case measure => simp [intOf]; omega
    · obtain rfl : k = n := by omega
      go_wp2_with fail
      go_ret
      exact ⟨by rw [Vw.idx_miss p l (fun j y hy => HA.out j y (by have := (List.getElem?_eq_some_iff.1 hy).1; rw [HL.out.len] at this; exact this) hy)]; rfl, HB.out⟩

set_option maxHeartbeats 400000 in
set_option maxRecDepth 100000 in
/-- slices.Contains over frames. -/
theorem Hear.contains_calls (A : Option Addr) (n cap : Nat) (l : List Fr) (z : Fr) (w : World) (hl : Frames w A n l) (hn : n ≤ 1000000) :
    Calls Try.prog 107 #[.slice A n cap, .agg #[.int .i64 z.k, .int .i64 z.i]] w fun e w' => e = .returned (.bool (l.any fun x => z.k == x.k && z.i == x.i)) ∧ Below w.heap.size w w' := by
  have c1 := fun T => Hear.index_calls A n cap l z _ (hl.below ((Below.refl w.heap.size w).alloc (Nat.le_refl _) (.cells #[.int .i64 z.k, .int .i64 z.i] T))) hn
  have ha := Vw.idx_any (fun x : Fr => z.k == x.k && z.i == x.i) l
  have HA := Lib.hid ha
  clear ha hl
  generalize Vw.idx (fun x : Fr => z.k == x.k && z.i == x.i) l = q at *
  obtain ⟨zk, zi⟩ := z
  go_enter Try.func107, Try.ntmps107
  go_wp2_with fail
  refine (c1 _).mono ?_
  rintro e w1 ⟨rfl, b1⟩
  go_wp2_with fail
  go_ret
  exact ⟨by rw [← HA.out]; rfl, Kit.chain ((Below.refl _ _).alloc (Nat.le_refl _) _) b1⟩

set_option maxHeartbeats 400000 in
set_option maxRecDepth 100000 in
/-- slices.ContainsFunc over frames. -/
theorem Hear.cfunc_calls (A : Option Addr) (n cap : Nat) (l : List Fr) (g : Nat) (lb : Array Value) (p : Fr → Bool) (w : World) (hl : Frames w A n l) (hn : n ≤ 1000000)
    (eg : ∀ args w, (callFunc g args).run Try.prog w = .ok (.enter g args) w) (hp : Hear.Is g lb p l w) :
    Calls Try.prog 109 #[.slice A n cap, .func (.func g) #[] lb] w fun e w' => e = .returned (.bool (l.any p)) ∧ Below w.heap.size w w' := by
  have c1 := Hear.ifunc_calls A n cap l g lb p w hl hn eg hp
  have ha := Vw.idx_any p l
  have HA := Lib.hid ha
  clear ha hl hp
  generalize Vw.idx p l = q at *
  go_enter Try.func109, Try.ntmps109
  go_wp2_with fail
  refine c1.mono ?_
  rintro e w1 ⟨rfl, b1⟩
  go_wp2_with fail
  go_ret
  exact ⟨by rw [← HA.out]; rfl, b1⟩
end Go.Proofs.Ytpbkoooljelhjaa
