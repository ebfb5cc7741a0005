/-
  The walks of fault.Hub, slices.Contains over numbers, and package round: what correct hubs relayed, whether a look is in order.
-/
import Derived.Test.YtpbkoooljelhjaaRound0
import Derived.Test.YtpbkoooljelhjaaKit3
import Derived.Test.YtpbkoooljelhjaaRgn0
import Derived.Test.YtpbkoooljelhjaaHear0
import Derived.Test.YtpbkoooljelhjaaSync1
import Derived.Deep.AppendLies
namespace Go.Proofs.Ytpbkoooljelhjaa
set_option linter.unusedVariables false
set_option linter.unusedSimpArgs false
open Go.RowKit

set_option maxHeartbeats 400000 in
set_option maxRecDepth 100000 in
/-- fault.Hub. -/
theorem Rd.fhub_calls (c v i : Int) (w : World) :
    Calls Try.prog 121 #[.agg #[.int .i64 c, .int .i64 v], .int .i64 i] w fun e w' => e = .returned (.bool (c == 2 && v == i)) ∧ Below w.heap.size w w' := by
  go_enter Try.func121, Try.ntmps121
  go_wp2_with fail
  all_goals (go_ret; exact ⟨by simp_all, Kit.alloc1 ..⟩)

set_option maxHeartbeats 400000 in
set_option maxRecDepth 100000 in
/-- daybreakref15.Hub. -/
theorem Rd.rhub_calls (c v i : Int) (w : World) :
    Calls Try.prog 115 #[.agg #[.int .i64 c, .int .i64 v], .int .i64 i] w fun e w' => e = .returned (.bool (c == 2 && v == i)) ∧ Below w.heap.size w w' := by
  cases h : c == 2
  all_goals
    go_enter Try.func115, Try.ntmps115
    go_wp2_with fail
    go_ret
    exact ⟨by first | rfl | simp, Kit.alloc1 ..⟩

theorem Rd.at0 (a b c d : Int) (w : World) : (Instr.index 75 (.agg #[.int .i64 a, .int .i64 b, .int .i64 c, .int .i64 d]) (.int .i64 0)).run Try.prog w = .ok (.agg #[.int .i64 a, .int .i64 b]) w := by kernel_rfl
theorem Rd.at1 (a b c d : Int) (w : World) : (Instr.index 75 (.agg #[.int .i64 a, .int .i64 b, .int .i64 c, .int .i64 d]) (.int .i64 1)).run Try.prog w = .ok (.agg #[.int .i64 c, .int .i64 d]) w := by kernel_rfl
theorem Rd.infoFr : (Try.prog.info? 51).map (fun i => (i.zero, i.size, i.bytes)) = some (some (.agg #[.int .i64 0, .int .i64 0]), 2, 16) := by kernel_rfl
/-- The cells of frames, all in a row. -/
def Rd.cells (l : List Fr) : List Value := Port.cells l
/-- What relayed answers. -/
def Rd.Row (w : World) (l : List Fr) (e : Ending) (w' : World) : Prop := ∃ A cap, e = .returned (.slice A l.length cap) ∧ Frames w' A l.length l ∧ Below w.heap.size w w'

set_option maxHeartbeats 4000000 in
set_option maxRecDepth 100000 in
/-- round.relayed. -/
theorem Rd.relayed_calls (c v t : Int) (a b : Fr) (N : Value) (w : World) :
    Calls Try.prog 110 #[.agg #[.int .i64 c, .int .i64 v], .agg #[.int .i64 t, .int .i64 a.k, .int .i64 a.i, .int .i64 b.k, .int .i64 b.i, N]] w (Rd.Row w (Rd.relayed c v a b)) := by
  obtain ⟨i0, hi, hz0, hz1, hz2⟩ := info_parts Rd.infoFr
  have HR : Hid (Rd.relK c v a b 2 = Rd.relayed c v a b) := Lib.hid rfl
  have HR0 : Hid (Rd.relK c v a b 0 = []) := Lib.hid rfl
  have HR1 : Hid (Rd.relK c v a b 1 = Rd.relK c v a b 0 ++ Rd.pick c v 0 a) := Lib.hid rfl
  have HR2 : Hid (Rd.relK c v a b 2 = Rd.relK c v a b 1 ++ Rd.pick c v 1 b) := Lib.hid rfl
  have hl1 : (Rd.relK c v a b 1).length ≤ 1 := by unfold Rd.relK Rd.pick; simp; split <;> simp
  have HF0 : Hid (∀ W, Calls Try.prog 121 #[.agg #[.int .i64 c, .int .i64 v], .int .i64 0] W fun e w' => e = .returned (.bool (Rd.fhub c v 0)) ∧ Below W.heap.size W w') := Lib.hid (fun W => Rd.fhub_calls c v 0 W)
  have HF1 : Hid (∀ W, Calls Try.prog 121 #[.agg #[.int .i64 c, .int .i64 v], .int .i64 1] W fun e w' => e = .returned (.bool (Rd.fhub c v 1)) ∧ Below W.heap.size W w') := Lib.hid (fun W => Rd.fhub_calls c v 1 W)
  have HP0 : Hid (Rd.pick c v 0 a = if Rd.fhub c v 0 then [] else [a]) := Lib.hid rfl
  have HP1 : Hid (Rd.pick c v 1 b = if Rd.fhub c v 1 then [] else [b]) := Lib.hid rfl
  have HLEN := Lib.hid hl1
  clear hl1
  generalize Rd.relK c v a b = rk at *
  generalize Rd.relayed c v a b = rr at *
  generalize Rd.pick c v 0 a = p0 at *
  generalize Rd.pick c v 1 b = p1 at *
  generalize Rd.fhub c v 0 = f0 at *
  generalize Rd.fhub c v 1 = f1 at *
  obtain ⟨ak, ai⟩ := a
  obtain ⟨bk, bi⟩ := b
  have i_0 := Rd.at0 ak ai bk bi
  have i_1 := Rd.at1 ak ai bk bi
  go_enter Try.func110, Try.ntmps110
  go_wp2_with fail
  go_loopw [5, 6, 7, 10] (fun vo _ _ vi wr => ∃ k : Nat, k ≤ 2 ∧ vi = .int .i64 k ∧ wr.ownsRow (w.heap.size + 2) 51 2 vo (rk k).length (Port.cells (rk k)) ∧ wr.cell? ⟨w.heap.size, 0, none⟩ = some (.int .i64 c) ∧ wr.cell? ⟨w.heap.size, 1, none⟩ = some (.int .i64 v) ∧ w.heap.size + 1 < wr.heap.size ∧ Hid (Below w.heap.size w wr))
    (fun _ _ _ vi _ => 2 - (intOf vi).toNat)
  case atStart => exact ⟨0, by omega, rfl, by rw [HR0.out]; exact World.ownsRow_nil _ _ _ _, by go_simp, by go_simp, by simp, Lib.hid (Kit.alloc2 ..)⟩
  case round =>
    obtain ⟨k, hk, rfl, hown, c0, c1, hsz, HB⟩ := hrel
    have hws := World.block_lt_of_cell? wr ⟨w.heap.size, 0, none⟩ c0
    have hk' : k = 0 ∨ k = 1 ∨ k = 2 := by omega
    rcases hk' with rfl | rfl | rfl
    · have cf := HF0.out
      cases f0 with
      | true =>
        have hn : rk 1 = rk 0 := by rw [HR1.out, HP0.out]; simp
        have HN := Lib.hid hn
        clear hn
        go_wp2_with fail
        refine (cf _).mono ?_
        rintro e w1 ⟨rfl, b1⟩
        replace b1 := Kit.chain (Kit.alloc1 ..) b1
        replace c0 := Kit.cell_below b1 c0
        replace c1 := Kit.cell_below b1 c1
        have own1 := Kit.own_below hown b1
        have hsz1 := Nat.lt_of_lt_of_le hsz b1.size
        have B1 := Lib.hid (Kit.chain HB.out b1)
        clear b1 hown
        go_wp2_with fail
        go_roundw
        case rel => exact ⟨1, by omega, by go_num, by rw [HN.out]; exact own1, c0, c1, hsz1, B1⟩
        case measure => first | decide | omega | (simp [intOf]; done) | (simp [intOf]; omega)
      | false =>
        have hn : rk 1 = rk 0 ++ [⟨ak, ai⟩] := by rw [HR1.out, HP0.out]; rfl
        have HN := Lib.hid hn
        have hle : (rk 0).length ≤ 1 := by rw [HR0.out]; simp
        clear hn
        go_wp2_with fail
        refine (cf _).mono ?_
        rintro e w1 ⟨rfl, b1⟩
        have m0 := Kit.cell_new b1 0 rfl
        have m1 := Kit.cell_new b1 1 rfl
        have hwr := Kit.lt_new b1
        replace b1 := Kit.chain (Kit.alloc1 ..) b1
        replace c0 := Kit.cell_below b1 c0
        replace c1 := Kit.cell_below b1 c1
        have own1 := Kit.own_below hown b1
        have hsz1 := Nat.lt_of_lt_of_le hsz b1.size
        have B1 := Lib.hid (Kit.chain HB.out b1)
        clear b1 hown
        go_wp2_with (at_builtin; go_loud (refine wpList_append_own _ rfl (.tmp 18) (.tmp 20) 60 rfl (w.heap.size + 2) 51 i0 (.agg #[.int .i64 0, .int .i64 0]) 2 16 Try.underlying60 hi hz0 hz1 hz2 rfl (by decide) _ _ _ rfl (own1.alloc _) ⟨w1.heap.size, 0, Option.none⟩ 1 1 [.int .i64 ak, .int .i64 ai] rfl rfl ?c1 ?c2 ?c3 ?c4 ?c5 ?_))
        case c1 => exact World.news_of_block (heap_alloc_new w1 _)
        case c2 => intro u hu; simp at hu; rcases hu with rfl | rfl <;> rfl
        case c3 => unfold maxLen; omega
        case c4 => omega
        case c5 => first | omega | (simp; omega)
        intro v' w3 hown' hgrow _
        have hb7 := Kit.own_base own1
        have b3 : Below (w.heap.size + 2) w1 w3 := ((Below.refl (w.heap.size + 2) w1).alloc (by omega) _).grown hgrow (by first | omega | (simp; omega)) (fun q hq => hb7 q hq)
        have BF := Lib.hid (B1.out.trans (b3.mono (by omega)))
        have d0 := (b3.cell (p := ⟨w.heap.size, 0, none⟩) (by show w.heap.size < w.heap.size + 2; omega)).trans c0
        have d1 := (b3.cell (p := ⟨w.heap.size, 1, none⟩) (by show w.heap.size < w.heap.size + 2; omega)).trans c1
        have hsz3 := Nat.lt_of_lt_of_le hsz1 b3.size
        have own3 : w3.ownsRow (w.heap.size + 2) 51 2 v' (rk 1).length (Port.cells (rk 1)) := by rw [HN.out, Port.cells_snoc, List.length_append]; exact hown'
        clear b3 hgrow own1 hb7 hown' c0 c1
        go_wp2_with fail
        go_roundw
        case rel => exact ⟨1, by omega, by go_num, own3, d0, d1, hsz3, BF⟩
        case measure => first | decide | omega | (simp [intOf]; done) | (simp [intOf]; omega)
    · have cf := HF1.out
      cases f1 with
      | true =>
        have hn : rk 2 = rk 1 := by rw [HR2.out, HP1.out]; simp
        have HN := Lib.hid hn
        clear hn
        go_wp2_with fail
        refine (cf _).mono ?_
        rintro e w1 ⟨rfl, b1⟩
        replace b1 := Kit.chain (Kit.alloc1 ..) b1
        replace c0 := Kit.cell_below b1 c0
        replace c1 := Kit.cell_below b1 c1
        have own1 := Kit.own_below hown b1
        have hsz1 := Nat.lt_of_lt_of_le hsz b1.size
        have B1 := Lib.hid (Kit.chain HB.out b1)
        clear b1 hown
        go_wp2_with fail
        go_roundw
        case rel => exact ⟨2, by omega, by go_num, by rw [HN.out]; exact own1, c0, c1, hsz1, B1⟩
        case measure => first | decide | omega | (simp [intOf]; done) | (simp [intOf]; omega)
      | false =>
        have hn : rk 2 = rk 1 ++ [⟨bk, bi⟩] := by rw [HR2.out, HP1.out]; rfl
        have HN := Lib.hid hn
        have hle := HLEN.out
        clear hn
        go_wp2_with fail
        refine (cf _).mono ?_
        rintro e w1 ⟨rfl, b1⟩
        have m0 := Kit.cell_new b1 0 rfl
        have m1 := Kit.cell_new b1 1 rfl
        have hwr := Kit.lt_new b1
        replace b1 := Kit.chain (Kit.alloc1 ..) b1
        replace c0 := Kit.cell_below b1 c0
        replace c1 := Kit.cell_below b1 c1
        have own1 := Kit.own_below hown b1
        have hsz1 := Nat.lt_of_lt_of_le hsz b1.size
        have B1 := Lib.hid (Kit.chain HB.out b1)
        clear b1 hown
        go_wp2_with (at_builtin; go_loud (refine wpList_append_own _ rfl (.tmp 18) (.tmp 20) 60 rfl (w.heap.size + 2) 51 i0 (.agg #[.int .i64 0, .int .i64 0]) 2 16 Try.underlying60 hi hz0 hz1 hz2 rfl (by decide) _ _ _ rfl (own1.alloc _) ⟨w1.heap.size, 0, Option.none⟩ 1 1 [.int .i64 bk, .int .i64 bi] rfl rfl ?c1 ?c2 ?c3 ?c4 ?c5 ?_))
        case c1 => exact World.news_of_block (heap_alloc_new w1 _)
        case c2 => intro u hu; simp at hu; rcases hu with rfl | rfl <;> rfl
        case c3 => unfold maxLen; omega
        case c4 => omega
        case c5 => first | omega | (simp; omega)
        intro v' w3 hown' hgrow _
        have hb7 := Kit.own_base own1
        have b3 : Below (w.heap.size + 2) w1 w3 := ((Below.refl (w.heap.size + 2) w1).alloc (by omega) _).grown hgrow (by first | omega | (simp; omega)) (fun q hq => hb7 q hq)
        have BF := Lib.hid (B1.out.trans (b3.mono (by omega)))
        have d0 := (b3.cell (p := ⟨w.heap.size, 0, none⟩) (by show w.heap.size < w.heap.size + 2; omega)).trans c0
        have d1 := (b3.cell (p := ⟨w.heap.size, 1, none⟩) (by show w.heap.size < w.heap.size + 2; omega)).trans c1
        have hsz3 := Nat.lt_of_lt_of_le hsz1 b3.size
        have own3 : w3.ownsRow (w.heap.size + 2) 51 2 v' (rk 2).length (Port.cells (rk 2)) := by rw [HN.out, Port.cells_snoc, List.length_append]; exact hown'
        clear b3 hgrow own1 hb7 hown' c0 c1
        go_wp2_with fail
        go_roundw
        case rel => exact ⟨2, by omega, by go_num, own3, d0, d1, hsz3, BF⟩
        case measure => first | decide | omega | (simp [intOf]; done) | (simp [intOf]; omega)
    · rw [HR.out] at hown
      obtain ⟨Ax, cx, rfl, hfx⟩ := Port.of_own hown
      have HX := Lib.hid hfx
      clear hown hfx
      go_wp2_with fail
      go_ret
      exact ⟨Ax, cx, rfl, HX.out, HB.out⟩

theorem Rd.bad_eq (s : Int) (must : Bool) (x : Fr) : Rd.bad s must x = if x.k == 2 && x.i == s then false else if x.k == 0 && x.i == 0 then must else true := rfl
set_option maxHeartbeats 400000 in
set_option maxRecDepth 100000 in
/-- The literal in Order: isn't it in order? -/
theorem Rd.bad_calls (x : Fr) (s : Int) (must : Bool) (B D : Nat) (w : World) (h1 : w.cell? ⟨B, 0, none⟩ = some (.int .i64 s)) (h2 : w.cell? ⟨D, 0, none⟩ = some (.bool must)) :
    Calls Try.prog 111 #[.agg #[.int .i64 x.k, .int .i64 x.i], .pointer (some ⟨B, 0, none⟩), .pointer (some ⟨D, 0, none⟩)] w fun e w' => e = .returned (.bool (Rd.bad s must x)) ∧ Below w.heap.size w w' := by
  have hb := Rd.bad_eq s must x
  have hlt1 := World.block_lt_of_cell? w ⟨B, 0, none⟩ h1
  have hlt2 := World.block_lt_of_cell? w ⟨D, 0, none⟩ h2
  obtain ⟨xk, xi⟩ := x
  simp only at hb
  generalize Rd.bad s must ⟨xk, xi⟩ = r at *
  cases e1 : xk == 2
  · simp only [e1, Bool.false_and] at hb
    cases e2 : xk == 0
    · simp only [e2, Bool.false_and] at hb
      subst hb
      go_enter Try.func111, Try.ntmps111
      go_wp2_with fail
      go_ret
      exact ⟨by simp, Kit.alloc1 ..⟩
    · cases e3 : xi == 0
      all_goals
        simp only [e2, e3, Bool.true_and] at hb
        subst hb
        go_enter Try.func111, Try.ntmps111
        go_wp2_with fail
        go_ret
        exact ⟨by simp, Kit.alloc1 ..⟩
  · have e2 : (xk == 0) = false := by rw [eq_of_beq e1]; rfl
    cases e3 : xi == s
    all_goals
      simp only [e1, e2, e3, Bool.true_and, Bool.false_and] at hb
      subst hb
      go_enter Try.func111, Try.ntmps111
      go_wp2_with fail
      go_ret
      exact ⟨by simp, Kit.alloc1 ..⟩

set_option maxHeartbeats 400000 in
set_option maxRecDepth 100000 in
/-- slices.Index over places. -/
theorem Rd.index_calls (A : Option Addr) (n cap : Nat) (l : List Nat) (z : Int) (w : World) (hl : Vw.Ints w A n l) (hn : n ≤ 1000000) :
    Calls Try.prog 120 #[.slice A n cap, .int .i64 z] w fun e w' => e = .returned (.int .i64 (Vw.idx (fun (x : Nat) => (x : Int) == z) l)) ∧ Below w.heap.size w w' := by
  have HL := Lib.hid hl
  clear hl
  generalize hpp : (fun (x : Nat) => (x : Int) == z) = p
  have HPP := Lib.hid hpp
  clear hpp
  go_enter Try.func120, Try.ntmps120
  go_wp2_with fail
  go_loopw [5, 8] (fun _ vi wr => ∃ k : Nat, k ≤ n ∧ vi = .int .i64 k ∧ Hid (Below w.heap.size w wr) ∧ Hid (∀ (j : Nat) (y : Nat), j < k → l[j]? = some y → p y = false)) (fun _ vi _ => n - (intOf vi).toNat)
  case atStart => exact ⟨0, by omega, rfl, Lib.hid (Below.refl _ _), Lib.hid (fun j y h => absurd h (by omega))⟩
  case round =>
    obtain ⟨k, hk, rfl, HB, HA⟩ := hrel
    by_cases hlt : k < n
    · obtain ⟨b, off, rfl, hb, hrow⟩ := HL.out.at_ (by omega)
      have hkl : k < l.length := by rw [HL.out.len]; exact hlt
      obtain ⟨x, hx⟩ : ∃ x, l[k]? = some x := ⟨_, List.getElem?_eq_getElem hkl⟩
      have m0 := (HB.out.cell (p := ⟨b, off + k, none⟩) hb).trans (hrow k x hx)
      have HX := Lib.hid hx
      have hpx : p x = ((x : Int) == z) := by rw [← HPP.out]
      clear hrow hx
      by_cases hq : (x : Int) = z
      · have hq' : p x = true := by rw [hpx, hq]; simp
        have HQ := Lib.hid hq'
        have g1 : ((x : Int) == z) = true := by rw [hq]; simp
        have g1' : (z == (x : Int)) = true := by rw [hq]; simp
        clear hq hq' hpx
        go_wp2_with fail
        first | (go_quiet (fail); go_wp2_with fail) | skip
        go_ret
        exact ⟨by rw [Vw.idx_hit p l k x HX.out HQ.out HA.out]; rfl, by first | exact HB.out | exact HB.out.trans ((Kit.below_drewN _ _).mono HB.out.size)⟩
      · have hq' : p x = false := by rw [hpx]; exact beq_eq_false_iff_ne.2 hq
        have HA2 : Hid (∀ (j : Nat) (y : Nat), j < k + 1 → l[j]? = some y → p y = false) := Lib.hid (fun j y hj hy => by
          by_cases e : j = k
          · subst e; have := HX.out; rw [this] at hy; injection hy with hy; rw [← hy]; exact hq'
          · exact HA.out j y (by omega) hy)
        have g1 : ((x : Int) == z) = false := beq_eq_false_iff_ne.2 hq
        have g1' : (z == (x : Int)) = false := beq_eq_false_iff_ne.2 (fun e => hq e.symm)
        clear hq hq' hpx
        go_wp2_with fail
        first | (go_quiet (fail); go_wp2_with fail) | skip
        go_roundw
        case rel => exact ⟨k + 1, by omega, by go_num, by first | exact HB | exact Lib.hid (HB.out.trans ((Kit.below_drewN _ _).mono HB.out.size)), HA2⟩
        case measure => simp [intOf]; omega
    · obtain rfl : k = n := by omega
      go_wp2_with fail
      go_ret
      exact ⟨by rw [Vw.idx_miss p l (fun j y hy => HA.out j y (by have := (List.getElem?_eq_some_iff.1 hy).1; rw [HL.out.len] at this; exact this) hy)]; rfl, HB.out⟩

set_option maxHeartbeats 400000 in
set_option maxRecDepth 100000 in
/-- slices.Contains over places. -/
theorem Rd.contains_calls (A : Option Addr) (n cap : Nat) (l : List Nat) (z : Int) (w : World) (hl : Vw.Ints w A n l) (hn : n ≤ 1000000) :
    Calls Try.prog 108 #[.slice A n cap, .int .i64 z] w fun e w' => e = .returned (.bool (l.any fun (x : Nat) => (x : Int) == z)) ∧ Below w.heap.size w w' := by
  have c1 := Rd.index_calls A n cap l z w hl hn
  have ha := Vw.idx_any (fun (x : Nat) => (x : Int) == z) l
  have HA := Lib.hid ha
  clear ha hl
  generalize Vw.idx (fun (x : Nat) => (x : Int) == z) l = q at *
  go_enter Try.func108, Try.ntmps108
  go_wp2_with fail
  refine c1.mono ?_
  rintro e w1 ⟨rfl, b1⟩
  go_wp2_with fail
  go_ret
  exact ⟨by rw [← HA.out]; rfl, b1⟩
end Go.Proofs.Ytpbkoooljelhjaa
