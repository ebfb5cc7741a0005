/-
  Part 8 of a merged text.
-/
import Derived.Test.YtgiojagdmglinaaGreatDoorGb07
import Derived.Test.YtgiojagdmglinaaGreatDoorGb05
import Derived.Test.YtgiojagdmglinaaGreatDoorProg
import Derived.Deep.RegionHeld3
import Derived.BigRegion
import Derived.Laws.AppendOwnNone
import Derived.Lib.BufferMore
import Derived.Test.YtgiojagdmglinaaGreatDoorGb04
import Derived.Deep.RegionWith
import Derived.StillTailTactics
import Derived.Test.YtgiojagdmglinaaGreatDoorGb00
import Derived.Laws.StructEq
set_option linter.unusedVariables false
set_option linter.unusedSimpArgs false
set_option maxRecDepth 100000
namespace Go.Proofs.YtgiojagdmglinaaGreatDoor
open Go.RowKit
namespace Vote
theorem info : (Tryz.prog.info? 133).map (fun i => (i.zero, i.size, i.bytes)) = some (some (.agg #[.pointer none, .int .i64 0]), 2, 16) := by kernel_rfl
theorem news (W : World) (N b : Nat) (hN : W.heap.size = N) (o : Nat) (m : Int) : ∀ j u, [Value.pointer (some ⟨b, o, none⟩), .int .i64 m][j]? = some u → (W.alloc (.cells #[.pointer (some ⟨b, o, none⟩), .int .i64 m] 133)).cell? ((⟨N, 0, none⟩ : Addr).add j) = some u := by
 subst hN
 exact World.news_of_block (heap_alloc_new W _)
set_option maxHeartbeats 1000000 in
theorem fields_calls (n b : Nat) (w : World) (h3 : 3 ≤ n) (h8 : n ≤ 8) :
  Calls Tryz.prog 86 #[.int .i64 n, .pointer (some ⟨b, 0, none⟩)] w fun e w' => ∃ v, e = .returned v ∧ w'.ownsRow w.heap.size 133 2 v 10 (fcells b n 10) ∧ Below w.heap.size w w' := by
 obtain ⟨i0, hi, hz0, hz1, hz2⟩ := info_parts info
 have kb := fun W => Cf.block_calls (n : Int) W (by omega) (by omega)
 have KB := Lib.hid kb
 clear kb
 have hn8 : (n : Int) ≤ 8 := by omega
 have hn0 : (3 : Int) ≤ n := by omega
 have hw : IntKind.i64.wrap (2 * (n : Int) + 1) = 2 * n + 1 := by rw [IntKind.wrap_i64]; omega
 have HB := Lib.hid ((Below.refl w.heap.size w).drew)
 go_enter Tryz.func86, Tryz.ntmps86
 go_wp2_with fail
 go_region_held3 (fun w' => True) (trivial) ((go_at_call 108; refine (KB.out _).mono ?_; rintro e wn ⟨rfl, bn⟩; replace HB := Lib.hid (HB.out.trans (bn.mono HB.out.size)); clear bn))
 have hown0 : (wn.alloc (.cells #[.pointer (some ⟨b, 9, none⟩), .int .i64 (2 * n + 1), .pointer (some ⟨b, 10, none⟩), .int .i64 (2 * n)] 133)).ownsRow w.heap.size 133 2 (.slice (some ⟨wn.heap.size, 0, none⟩) 2 2) 2 (fcells b n 2) :=
  World.ownsRow_lit wn _ 2 HB.out.size (by unfold maxLen; omega) rfl
 have HB2 := Lib.hid (HB.out.alloc HB.out.size (.cells #[.pointer (some ⟨b, 9, none⟩), .int .i64 (2 * n + 1), .pointer (some ⟨b, 10, none⟩), .int .i64 (2 * n)] 133))
 generalize wn.alloc (.cells #[.pointer (some ⟨b, 9, none⟩), .int .i64 (2 * n + 1), .pointer (some ⟨b, 10, none⟩), .int .i64 (2 * n)] 133) = w2 at *
 clear HB
 go_wp2_with fail
 go_loopw [5, 6, 7, 22] (fun vl _ _ vi wr => ∃ k : Nat, k ≤ 8 ∧ vi = .int .i64 k ∧ wr.ownsRow w.heap.size 133 2 vl (2 + k) (fcells b n (2 + k)) ∧ Hid (Below w.heap.size w wr)) (fun _ _ _ vi _ => 8 - (intOf vi).toNat)
 case atStart => exact ⟨0, by omega, rfl, hown0, HB2⟩
 case round =>
  clear hown0 HB2
  obtain ⟨k, hk, rfl, hown, HB⟩ := hrel
  by_cases hlt : k < 8
  ·have hm : ms n (2 + k) = if k < n then (n : Int) else 0 := by unfold ms Wm.most; rw [if_neg (by omega), if_neg (by omega)]; simp
   have ho : ord (2 + k) = k := by unfold ord; rw [if_neg (by omega), if_neg (by omega)]; omega
   have hs := fcells_succ b n (2 + k)
   unfold fcell at hs
   rw [hm, ho] at hs
   clear hm ho
   by_cases hkn : k < n
   ·rw [if_pos hkn] at hs
    have HS := Lib.hid hs
    clear hs
    go_wp2_with (at_builtin; go_loud (refine wpList_append_own _ rfl _ _ 128 rfl w.heap.size 133 i0 (.agg #[.pointer none, .int .i64 0]) 2 16 Tryz.underlying128 hi hz0 hz1 hz2 rfl (by decide) _ _ _ rfl (hown.alloc _) ⟨wr.heap.size, 0, Option.none⟩ 1 1 [.pointer (some ⟨b, k, Option.none⟩), .int .i64 n] rfl rfl ?c1 ?c2 ?c3 ?c4 ?c5 ?_))
    case c1 => exact news wr wr.heap.size b rfl k n
    case c2 => intro u hu; simp at hu; rcases hu with rfl | rfl <;> rfl
    case c3 => unfold maxLen; omega
    case c4 => omega
    case c5 => have := HB.out.size; simp; omega
    intro v' w3 hown' hgrow _
    have hb7 := Kit.own_base hown
    have b3 : Below w.heap.size w w3 := (HB.out.alloc HB.out.size _).grown hgrow (by have := HB.out.size; simp; omega) (fun q hq => hb7 q hq)
    have B3 := Lib.hid b3
    have hown3 : w3.ownsRow w.heap.size 133 2 v' (2 + (k + 1)) (fcells b n (2 + (k + 1))) := by rw [show 2 + (k + 1) = 2 + k + 1 by omega, HS.out]; exact hown'
    clear b3 hgrow hb7 hown' hown
    go_wp2
    go_roundw
    case rel => exact ⟨k + 1, by omega, by go_num, hown3, B3⟩
    case measure => simp [intOf]; omega
   ·rw [if_neg hkn] at hs
    have HS := Lib.hid hs
    clear hs
    go_wp2_with (at_builtin; go_loud (refine wpList_append_own _ rfl _ _ 128 rfl w.heap.size 133 i0 (.agg #[.pointer none, .int .i64 0]) 2 16 Tryz.underlying128 hi hz0 hz1 hz2 rfl (by decide) _ _ _ rfl (hown.alloc _) ⟨wr.heap.size, 0, Option.none⟩ 1 1 [.pointer (some ⟨b, k, Option.none⟩), .int .i64 0] rfl rfl ?c1 ?c2 ?c3 ?c4 ?c5 ?_))
    case c1 => exact news wr wr.heap.size b rfl k 0
    case c2 => intro u hu; simp at hu; rcases hu with rfl | rfl <;> rfl
    case c3 => unfold maxLen; omega
    case c4 => omega
    case c5 => have := HB.out.size; simp; omega
    intro v' w3 hown' hgrow _
    have hb7 := Kit.own_base hown
    have b3 : Below w.heap.size w w3 := (HB.out.alloc HB.out.size _).grown hgrow (by have := HB.out.size; simp; omega) (fun q hq => hb7 q hq)
    have B3 := Lib.hid b3
    have hown3 : w3.ownsRow w.heap.size 133 2 v' (2 + (k + 1)) (fcells b n (2 + (k + 1))) := by rw [show 2 + (k + 1) = 2 + k + 1 by omega, HS.out]; exact hown'
    clear b3 hgrow hb7 hown' hown
    go_wp2
    go_roundw
    case rel => exact ⟨k + 1, by omega, by go_num, hown3, B3⟩
    case measure => simp [intOf]; omega
  ·obtain rfl : k = 8 := by omega
   go_wp2_with fail
   go_ret
   exact ⟨_, rfl, hown, HB.out⟩
end Vote
end Go.Proofs.YtgiojagdmglinaaGreatDoor
namespace Go.Proofs.YtgiojagdmglinaaGreatDoor
open Go.RowKit
namespace Tal
set_option maxHeartbeats 400000 in
theorem modx_calls (n p : Int) (w : World) (h3 : 3 ≤ n) (h8 : n ≤ 8) : Calls Tryz.prog 88 #[.int .i64 n, .int .i64 p] w fun e w' => e = .returned (.int .i64 (p % n)) ∧ w = w' := by
 have z : ¬ n = 0 := by omega
 have e0 : 0 ≤ p % n := Int.emod_nonneg _ (by omega)
 have e1 : p % n < n := Int.emod_lt_of_pos _ (by omega)
 have ht := @Int.tmod_eq_emod p n
 by_cases hp : 0 ≤ p ∨ n ∣ p
 ·rw [if_pos hp] at ht
  have e : p.tmod n = p % n := by omega
  have g : decide (p % n < 0) = false := decide_eq_false (by omega)
  clear hp ht
  generalize p % n = r at *
  go_enter Tryz.func88, Tryz.ntmps88
  go_wp2_with fail
  go_ret
  exact ⟨rfl, rfl⟩
 ·rw [if_neg hp] at ht
  have e : p.tmod n = p % n - n := by omega
  have g : decide (p % n - n < 0) = true := decide_eq_true (by omega)
  have hs : p % n - n + n = p % n := by omega
  clear hp ht
  generalize p % n = r at *
  go_enter Tryz.func88, Tryz.ntmps88
  go_wp2_with fail
  go_ret
  exact ⟨rfl, rfl⟩
end Tal
namespace Vote
theorem own_row {w : World} {base b n : Nat} {v : Value} (h : w.ownsRow base 133 2 v 10 (fcells b n 10)) : ∃ g cap, v = .slice (some ⟨g, 0, none⟩) 10 cap ∧ base ≤ g ∧ Kit.Row w g (fcells b n 10) := by
 obtain ⟨g, cap, rfl, hb, hg⟩ := h.form (by omega)
 have hl := h.lt g rfl
 refine ⟨g, cap, rfl, hl.1, hl.2, fun o u hu => ?_, fun o _ => h.frozenAt o⟩
 have hc := h.cells (g := g) rfl o u hu
 have ha : (⟨g, 0, none⟩ : Addr).add o = ⟨g, o, none⟩ := by unfold Addr.add; split <;> simp_all
 rwa [ha] at hc
theorem upd_at (φ : Int → Int → Int) (n : Nat) (L : List Int) (o : Nat) : ∀ k, (∀ j, j < k → ord j ≠ o) → (upd φ n L k).getD o 0 = L.getD o 0
 | 0, _ => rfl
 | k + 1, h => by
  have ih := upd_at φ n L o k (fun j hj => h j (by omega))
  rw [← ih, upd]
  simp only [List.getD_eq_getElem?_getD]
  rw [List.getElem?_set_ne (h k (by omega))]
theorem upd_cur (φ : Int → Int → Int) (n : Nat) (L : List Int) (k : Nat) (h : k < 10) : (upd φ n L k).getD (ord k) 0 = L.getD (ord k) 0 :=
 upd_at φ n L (ord k) k fun j hj => by unfold ord; split <;> split <;> (try split) <;> (try split) <;> omega
theorem upd_all (φ : Int → Int → Int) (n : Nat) (a0 a1 a2 a3 a4 a5 a6 a7 p a h s : Int) :
  upd φ n [a0, a1, a2, a3, a4, a5, a6, a7, p, a, h, s] 10 = [φ a0 (Wm.most n 0), φ a1 (Wm.most n 1), φ a2 (Wm.most n 2), φ a3 (Wm.most n 3), φ a4 (Wm.most n 4), φ a5 (Wm.most n 5), φ a6 (Wm.most n 6), φ a7 (Wm.most n 7), p, φ a (2 * n + 1), φ h (2 * n), s] := rfl
theorem Row.field {w : World} {g b n k : Nat} (h : Kit.Row w g (fcells b n 10)) (hk : k < 10) : w.cell? ⟨g, k * 2, none⟩ = some (.pointer (some ⟨b, ord k, none⟩)) ∧ w.cell? ⟨g, k * 2 + 1, none⟩ = some (.int .i64 (ms n k)) :=
 ⟨h.at_ _ _ (fcells_get b n 10 k hk).1, h.at_ _ _ (fcells_get b n 10 k hk).2⟩
end Vote
end Go.Proofs.YtgiojagdmglinaaGreatDoor
namespace Go.Proofs.YtgiojagdmglinaaGreatDoor
open Go.RowKit
namespace Vote
def cl (v m : Int) : Int := Tal.clamp v 0 m
theorem infoHub : (Tryz.prog.info? 28).map (fun i => (i.zero, i.size, i.bytes)) = some (some (.agg #[.int .i64 0, .int .i64 0, .int .i64 0, .int .i64 0, .int .i64 0, .int .i64 0, .int .i64 0, .int .i64 0, .int .i64 0, .int .i64 0, .int .i64 0, .int .i64 0]), 12, 96) := by kernel_rfl
set_option maxHeartbeats 2000000 in
theorem clean_calls (n : Nat) (a0 a1 a2 a3 a4 a5 a6 a7 xp xa xh xs : Int) (w : World) (h3 : 3 ≤ n) (h8 : n ≤ 8) :
  Calls Tryz.prog 87 #[.int .i64 n, .agg #[.int .i64 a0, .int .i64 a1, .int .i64 a2, .int .i64 a3, .int .i64 a4, .int .i64 a5, .int .i64 a6, .int .i64 a7, .int .i64 xp, .int .i64 xa, .int .i64 xh, .int .i64 xs]] w fun e w' => e = .returned (.tuple #[.agg #[.int .i64 (cl a0 (Wm.most n 0)), .int .i64 (cl a1 (Wm.most n 1)), .int .i64 (cl a2 (Wm.most n 2)), .int .i64 (cl a3 (Wm.most n 3)), .int .i64 (cl a4 (Wm.most n 4)), .int .i64 (cl a5 (Wm.most n 5)), .int .i64 (cl a6 (Wm.most n 6)), .int .i64 (cl a7 (Wm.most n 7)), .int .i64 (xp % n), .int .i64 (cl xa (2 * n + 1)), .int .i64 (cl xh (2 * n)), .int .i64 (xs % n)], .int .i64 0]) ∧ Below w.heap.size w w' := by
 have kr := fun W => Cf.right_calls (n : Int) W (by omega) (by omega)
 have kf := fun W => fields_calls n w.heap.size W h3 h8
 have kc := fun v m W => Tal.clamp_calls v 0 m W
 have kp := fun W => Tal.modx_calls (n : Int) xp W (by omega) (by omega)
 have ks := fun W => Tal.modx_calls (n : Int) xs W (by omega) (by omega)
 have KR := Lib.hid kr
 have KF := Lib.hid kf
 have KC := Lib.hid kc
 have KP := Lib.hid kp
 have KS := Lib.hid ks
 have H3 := Lib.hid h3
 have H8 := Lib.hid h8
 clear kr kf kc kp ks h3 h8
 go_enter Tryz.func87, Tryz.ntmps87
 go_wp2_with fail
 refine (KR.out _).mono ?_
 rintro e w1 ⟨rfl, rfl⟩
 have q0 : Kit.Row ((w.alloc (.cells #[.int .i64 a0, .int .i64 a1, .int .i64 a2, .int .i64 a3, .int .i64 a4, .int .i64 a5, .int .i64 a6, .int .i64 a7, .int .i64 xp, .int .i64 xa, .int .i64 xh, .int .i64 xs] 28)).alloc (.cells #[.int .i64 0, .int .i64 0, .int .i64 0, .int .i64 0, .int .i64 0, .int .i64 0, .int .i64 0, .int .i64 0, .int .i64 0, .int .i64 0, .int .i64 0, .int .i64 0] 28)) w.heap.size (ints [a0, a1, a2, a3, a4, a5, a6, a7, xp, xa, xh, xs]) := (Kit.Row.new w _ _).alloc _
 have q1 : Kit.Row ((w.alloc (.cells #[.int .i64 a0, .int .i64 a1, .int .i64 a2, .int .i64 a3, .int .i64 a4, .int .i64 a5, .int .i64 a6, .int .i64 a7, .int .i64 xp, .int .i64 xa, .int .i64 xh, .int .i64 xs] 28)).alloc (.cells #[.int .i64 0, .int .i64 0, .int .i64 0, .int .i64 0, .int .i64 0, .int .i64 0, .int .i64 0, .int .i64 0, .int .i64 0, .int .i64 0, .int .i64 0, .int .i64 0] 28)) (w.heap.size + 1) (ints [0, 0, 0, 0, 0, 0, 0, 0, 0, 0, 0, 0]) := Kit.Row.newAt _ _ _ _ (by simp)
 have qb := Kit.alloc2 w #[.int .i64 a0, .int .i64 a1, .int .i64 a2, .int .i64 a3, .int .i64 a4, .int .i64 a5, .int .i64 a6, .int .i64 a7, .int .i64 xp, .int .i64 xa, .int .i64 xh, .int .i64 xs] #[.int .i64 0, .int .i64 0, .int .i64 0, .int .i64 0, .int .i64 0, .int .i64 0, .int .i64 0, .int .i64 0, .int .i64 0, .int .i64 0, .int .i64 0, .int .i64 0] 28 28
 generalize (w.alloc (.cells #[.int .i64 a0, .int .i64 a1, .int .i64 a2, .int .i64 a3, .int .i64 a4, .int .i64 a5, .int .i64 a6, .int .i64 a7, .int .i64 xp, .int .i64 xa, .int .i64 xh, .int .i64 xs] 28)).alloc (.cells #[.int .i64 0, .int .i64 0, .int .i64 0, .int .i64 0, .int .i64 0, .int .i64 0, .int .i64 0, .int .i64 0, .int .i64 0, .int .i64 0, .int .i64 0, .int .i64 0] 28) = w2 at *
 go_wp2_with fail
 refine (KF.out _).mono ?_
 rintro e w3 ⟨v, rfl, hown, b3⟩
 obtain ⟨g, cap, rfl, hg, rg⟩ := own_row hown
 have hg1 : w.heap.size + 1 < g := Nat.lt_of_lt_of_le q1.lt hg
 have R0 := q0.below b3
 have R1 := Lib.hid (q1.below b3)
 have RG := Lib.hid rg
 have HB := Lib.hid (qb.trans (b3.mono qb.size))
 clear q0 q1 qb hown b3 hg rg
 go_wp2_with fail
 go_loopw [7, 15] (fun _ vi wr => ∃ k : Nat, k ≤ 10 ∧ vi = .int .i64 k ∧ Kit.Row wr w.heap.size (ints (upd cl n [a0, a1, a2, a3, a4, a5, a6, a7, xp, xa, xh, xs] k)) ∧ Hid (Kit.Row wr (w.heap.size + 1) (ints [0, 0, 0, 0, 0, 0, 0, 0, 0, 0, 0, 0])) ∧ Hid (Kit.Row wr g (fcells w.heap.size n 10)) ∧ Hid (Below w.heap.size w wr)) (fun _ vi _ => 10 - (intOf vi).toNat)
 case atStart => exact ⟨0, by omega, rfl, R0, R1, RG, HB⟩
 case round =>
  clear R0 R1 RG HB
  obtain ⟨k, hk, rfl, R0, R1, RG, HB⟩ := hrel
  by_cases hlt : k < 10
  ·have m0 := (Row.field RG.out hlt).1
   have m1 := (Row.field RG.out hlt).2
   have ho : ord k < (upd cl n [a0, a1, a2, a3, a4, a5, a6, a7, xp, xa, xh, xs] k).length := by rw [upd_len]; exact ord_lt hlt
   have c0 := R0.at_ _ _ (ints_at (upd cl n [a0, a1, a2, a3, a4, a5, a6, a7, xp, xa, xh, xs] k) (ord k) ho)
   have f0 := R0.free (ord k) (by rw [ints_len]; exact ho)
   have hcur := upd_cur cl n [a0, a1, a2, a3, a4, a5, a6, a7, xp, xa, xh, xs] k hlt
   have hset : (ints (upd cl n [a0, a1, a2, a3, a4, a5, a6, a7, xp, xa, xh, xs] k)).set (ord k) (.int .i64 (cl ((upd cl n [a0, a1, a2, a3, a4, a5, a6, a7, xp, xa, xh, xs] k).getD (ord k) 0) (ms n k))) = ints (upd cl n [a0, a1, a2, a3, a4, a5, a6, a7, xp, xa, xh, xs] (k + 1)) := by rw [ints_set]; rfl
   have HSET := Lib.hid hset
   have HO : Hid (ord k < (ints (upd cl n [a0, a1, a2, a3, a4, a5, a6, a7, xp, xa, xh, xs] k)).length) := Lib.hid (by rw [ints_len]; exact ho)
   have lb := R0.lt
   have lg := RG.out.lt
   have RH := Lib.hid R0
   clear hset ho R0
   clear hcur
   generalize (upd cl n [a0, a1, a2, a3, a4, a5, a6, a7, xp, xa, xh, xs] k).getD (ord k) 0 = v at *
   go_wp2_with fail
   have RW := Lib.hid (RH.out.alloc (.cells #[.pointer (some ⟨w.heap.size, ord k, none⟩), .int .i64 (ms n k)] 133))
   have R1W := Lib.hid (R1.out.alloc (.cells #[.pointer (some ⟨w.heap.size, ord k, none⟩), .int .i64 (ms n k)] 133))
   have RGW := Lib.hid (RG.out.alloc (.cells #[.pointer (some ⟨w.heap.size, ord k, none⟩), .int .i64 (ms n k)] 133))
   have HBW := Lib.hid (HB.out.alloc HB.out.size (.cells #[.pointer (some ⟨w.heap.size, ord k, none⟩), .int .i64 (ms n k)] 133))
   have d2 := Kit.cell_below (Kit.alloc1 wr #[.pointer (some ⟨w.heap.size, ord k, none⟩), .int .i64 (ms n k)] 133) c0
   have d3 := Kit.free_below (Kit.alloc1 wr #[.pointer (some ⟨w.heap.size, ord k, none⟩), .int .i64 (ms n k)] 133) c0 f0
   have RN := Kit.Row.new wr #[.pointer (some ⟨w.heap.size, ord k, none⟩), .int .i64 (ms n k)] 133
   generalize wr.alloc (.cells #[.pointer (some ⟨w.heap.size, ord k, none⟩), .int .i64 (ms n k)] 133) = W at *
   generalize wr.heap.size = z at *
   have d0 := RN.at_ 0 _ rfl
   have d1 := RN.at_ 1 _ rfl
   clear c0 f0 m0 m1 RN
   refine wp_region_still_tail 10 (by kernel_rfl) (by kernel_rfl) ?_
   simp only [List.take_succ_cons, List.take_zero, List.drop_succ_cons, List.drop_zero]
   change wpStill _ _ W.drew (fun a' => wpList _ _ _ _ a' W.drew) _ _
   repeat still_step
   still_call ((KC.out _ _ _).mono fun e w' h => ⟨h.1, h.2.symm⟩)
   repeat still_step
   refine wpStill_nil ?_
   generalize hD : W.drew = D
   have d4 : D.frozen? ⟨w.heap.size, ord k, none⟩ = false := hD ▸ d3
   have d5 : D.cell? ⟨w.heap.size, ord k, none⟩ = some (.int .i64 v) := hD ▸ d2
   have RD := Lib.hid (hD ▸ RW.out.drew)
   have R1D := Lib.hid (hD ▸ R1W.out.drew)
   have RGD := Lib.hid (hD ▸ RGW.out.drew)
   have HBD := Lib.hid (hD ▸ HBW.out.drew)
   clear d0 d1 d2 d3 hD
   go_wp2_with fail
   go_roundw
   case rel => exact ⟨k + 1, by omega, by go_num, (RD.out.set (ord k) (.int .i64 (cl v (ms n k))) HO.out).cast HSET.out, Lib.hid (R1D.out.far _ _ _ (by omega)), Lib.hid (RGD.out.far _ _ _ (by omega)), Lib.hid (HBD.out.setCell (by simp) _)⟩
   case measure => simp [intOf]; omega
  ·obtain rfl : k = 10 := by omega
   have r0 := R0
   rw [upd_all] at r0
   have RU := Lib.hid r0
   have p8 := r0.at_ 8 (.int .i64 xp) rfl
   have p11 := r0.at_ 11 (.int .i64 xs) rfl
   have f8 := r0.free 8 (by simp [ints])
   have f11 := r0.free 11 (by simp [ints])
   clear r0 R0
   go_wp2_with fail
   refine wp_region_still_tail 9 (by kernel_rfl) (by kernel_rfl) ?_
   simp only [List.take_succ_cons, List.take_zero, List.drop_succ_cons, List.drop_zero]
   change wpStill _ _ wr.drew (fun a' => wpList _ _ _ _ a' wr.drew) _ _
   repeat still_step
   still_call ((KP.out _).mono fun e w' h => ⟨h.1, h.2.symm⟩)
   repeat still_step
   still_call ((KS.out _).mono fun e w' h => ⟨h.1, h.2.symm⟩)
   repeat still_step
   refine wpStill_nil ?_
   generalize hD : wr.drew = D
   have d8 : D.frozen? ⟨w.heap.size, 8, none⟩ = false := hD ▸ f8
   have d11 : D.frozen? ⟨w.heap.size, 11, none⟩ = false := hD ▸ f11
   have e8 : D.cell? ⟨w.heap.size, 8, none⟩ = some (.int .i64 xp) := hD ▸ p8
   have e11 : D.cell? ⟨w.heap.size, 11, none⟩ = some (.int .i64 xs) := hD ▸ p11
   have RD := Lib.hid (hD ▸ RU.out.drew)
   have R1D := Lib.hid (hD ▸ R1.out.drew)
   have HBD := Lib.hid (hD ▸ HB.out.drew)
   clear hD p8 p11 f8 f11
   have r5 := (RD.out.set 8 (.int .i64 (xp % n)) (by simp [ints])).set 11 (.int .i64 (xs % n)) (by simp [ints])
   have c0 := r5.at_ 0 (.int .i64 (cl a0 (Wm.most n 0))) rfl
   have c1 := r5.at_ 1 (.int .i64 (cl a1 (Wm.most n 1))) rfl
   have c2 := r5.at_ 2 (.int .i64 (cl a2 (Wm.most n 2))) rfl
   have c3 := r5.at_ 3 (.int .i64 (cl a3 (Wm.most n 3))) rfl
   have c4 := r5.at_ 4 (.int .i64 (cl a4 (Wm.most n 4))) rfl
   have c5 := r5.at_ 5 (.int .i64 (cl a5 (Wm.most n 5))) rfl
   have c6 := r5.at_ 6 (.int .i64 (cl a6 (Wm.most n 6))) rfl
   have c7 := r5.at_ 7 (.int .i64 (cl a7 (Wm.most n 7))) rfl
   have c8 := r5.at_ 8 (.int .i64 (xp % n)) rfl
   have c9 := r5.at_ 9 (.int .i64 (cl xa (2 * n + 1))) rfl
   have c10 := r5.at_ 10 (.int .i64 (cl xh (2 * n))) rfl
   have c11 := r5.at_ 11 (.int .i64 (xs % n)) rfl
   have s5 := (R1D.out.far w.heap.size 8 (.int .i64 (xp % n)) (by omega)).far w.heap.size 11 (.int .i64 (xs % n)) (by omega)
   have g0 := s5.at_ 0 (.int .i64 0) rfl
   have f0 := s5.free 0 (by simp [ints])
   have g1 := s5.at_ 1 (.int .i64 0) rfl
   have f1 := s5.free 1 (by simp [ints])
   have g2 := s5.at_ 2 (.int .i64 0) rfl
   have f2 := s5.free 2 (by simp [ints])
   have g3 := s5.at_ 3 (.int .i64 0) rfl
   have f3 := s5.free 3 (by simp [ints])
   have g4 := s5.at_ 4 (.int .i64 0) rfl
   have f4 := s5.free 4 (by simp [ints])
   have g5 := s5.at_ 5 (.int .i64 0) rfl
   have f5 := s5.free 5 (by simp [ints])
   have g6 := s5.at_ 6 (.int .i64 0) rfl
   have f6 := s5.free 6 (by simp [ints])
   have g7 := s5.at_ 7 (.int .i64 0) rfl
   have f7 := s5.free 7 (by simp [ints])
   have g8 := s5.at_ 8 (.int .i64 0) rfl
   have f8 := s5.free 8 (by simp [ints])
   have g9 := s5.at_ 9 (.int .i64 0) rfl
   have f9 := s5.free 9 (by simp [ints])
   have g10 := s5.at_ 10 (.int .i64 0) rfl
   have f10 := s5.free 10 (by simp [ints])
   have g11 := s5.at_ 11 (.int .i64 0) rfl
   have f11 := s5.free 11 (by simp [ints])
   have hlt := s5.lt
   have S5 := Lib.hid s5
   clear r5 s5
   go_wp2_with fail
   have r6 := ((((((((((((S5.out.set 0 (.int .i64 (cl a0 (Wm.most n 0))) (by simp [ints])).set 1 (.int .i64 (cl a1 (Wm.most n 1))) (by simp [ints])).set 2 (.int .i64 (cl a2 (Wm.most n 2))) (by simp [ints])).set 3 (.int .i64 (cl a3 (Wm.most n 3))) (by simp [ints])).set 4 (.int .i64 (cl a4 (Wm.most n 4))) (by simp [ints])).set 5 (.int .i64 (cl a5 (Wm.most n 5))) (by simp [ints])).set 6 (.int .i64 (cl a6 (Wm.most n 6))) (by simp [ints])).set 7 (.int .i64 (cl a7 (Wm.most n 7))) (by simp [ints])).set 8 (.int .i64 (xp % n)) (by simp [ints])).set 9 (.int .i64 (cl xa (2 * n + 1))) (by simp [ints])).set 10 (.int .i64 (cl xh (2 * n))) (by simp [ints])).set 11 (.int .i64 (xs % n)) (by simp [ints]))
   have k0 := r6.at_ 0 (.int .i64 (cl a0 (Wm.most n 0))) rfl
   have k1 := r6.at_ 1 (.int .i64 (cl a1 (Wm.most n 1))) rfl
   have k2 := r6.at_ 2 (.int .i64 (cl a2 (Wm.most n 2))) rfl
   have k3 := r6.at_ 3 (.int .i64 (cl a3 (Wm.most n 3))) rfl
   have k4 := r6.at_ 4 (.int .i64 (cl a4 (Wm.most n 4))) rfl
   have k5 := r6.at_ 5 (.int .i64 (cl a5 (Wm.most n 5))) rfl
   have k6 := r6.at_ 6 (.int .i64 (cl a6 (Wm.most n 6))) rfl
   have k7 := r6.at_ 7 (.int .i64 (cl a7 (Wm.most n 7))) rfl
   have k8 := r6.at_ 8 (.int .i64 (xp % n)) rfl
   have k9 := r6.at_ 9 (.int .i64 (cl xa (2 * n + 1))) rfl
   have k10 := r6.at_ 10 (.int .i64 (cl xh (2 * n))) rfl
   have k11 := r6.at_ 11 (.int .i64 (xs % n)) rfl
   clear r6
   refine bodyPost_ret (v := .tuple #[.agg #[.int .i64 (cl a0 (Wm.most n 0)), .int .i64 (cl a1 (Wm.most n 1)), .int .i64 (cl a2 (Wm.most n 2)), .int .i64 (cl a3 (Wm.most n 3)), .int .i64 (cl a4 (Wm.most n 4)), .int .i64 (cl a5 (Wm.most n 5)), .int .i64 (cl a6 (Wm.most n 6)), .int .i64 (cl a7 (Wm.most n 7)), .int .i64 (xp % n), .int .i64 (cl xa (2 * n + 1)), .int .i64 (cl xh (2 * n)), .int .i64 (xs % n)], .int .i64 0]) (by simp [results, Tryz.results87, go_sem, k0, k1, k2, k3, k4, k5, k6, k7, k8, k9, k10, k11, hlt]) rfl ⟨rfl, ?_⟩
   repeat' (first | (with_reducible exact HBD.out) | (with_reducible refine Below.setCell ?_ ?_ _) | (with_reducible refine Below.alloc ?_ ?_ _) | (with_reducible refine Below.drew ?_))
   all_goals (first | omega | (simp; done) | (simp; omega))
end Vote
end Go.Proofs.YtgiojagdmglinaaGreatDoor
namespace Go.Proofs.YtgiojagdmglinaaGreatDoor
open Go.RowKit
namespace Vote
theorem eqHub (a0 a1 a2 a3 a4 a5 a6 a7 xp xa xh xs : Int) (w : World) : (binOp .eql 28 (.agg #[.int .i64 a0, .int .i64 a1, .int .i64 a2, .int .i64 a3, .int .i64 a4, .int .i64 a5, .int .i64 a6, .int .i64 a7, .int .i64 xp, .int .i64 xa, .int .i64 xh, .int .i64 xs]) (.agg #[.int .i64 a0, .int .i64 a1, .int .i64 a2, .int .i64 a3, .int .i64 a4, .int .i64 a5, .int .i64 a6, .int .i64 a7, .int .i64 xp, .int .i64 xa, .int .i64 xh, .int .i64 xs])).run Tryz.prog w = .ok (.bool true) w := by
 have hA := fun d w => Kit.run_equalIn_array (P := Tryz.prog) w d 26 3 8 1 #[.int .i64 a0, .int .i64 a1, .int .i64 a2, .int .i64 a3, .int .i64 a4, .int .i64 a5, .int .i64 a6, .int .i64 a7] #[.int .i64 a0, .int .i64 a1, .int .i64 a2, .int .i64 a3, .int .i64 a4, .int .i64 a5, .int .i64 a6, .int .i64 a7] Tryz.underlying26 Tryz.sizeOf3
 rw [run_eql_struct]
 go_simp
 simp [Kit.eqElems, List.range', go_sem]
theorem cl_id {v m : Int} (h : 0 ≤ v ∧ v ≤ m) : cl v m = v := by
 unfold cl Tal.clamp
 rw [if_neg (by omega), Int.min_eq_left h.2]
theorem fields_in {n : Nat} {h : Hb} (h8 : n ≤ 8) (r : Wm.Right n h) : ∀ k, k < 10 → 0 ≤ (Wm.nums h).getD (ord k) 0 ∧ (Wm.nums h).getD (ord k) 0 ≤ ms n k := fun k hk => by
 have ag : ∀ p, 0 ≤ h.ag p ∧ h.ag p ≤ Wm.most n p := fun p => by
  unfold Wm.most
  split
  ·exact r.ag p (by assumption)
  ·rw [r.no p (by omega)]; omega
 have h1 := r.age
 have h2 := r.hold
 match k, hk with
 | 0, _ => exact ⟨h1.1, h1.2⟩
 | 1, _ => exact ⟨h2.1, h2.2⟩
 | 2, _ => exact ag 0
 | 3, _ => exact ag 1
 | 4, _ => exact ag 2
 | 5, _ => exact ag 3
 | 6, _ => exact ag 4
 | 7, _ => exact ag 5
 | 8, _ => exact ag 6
 | 9, _ => exact ag 7
set_option maxHeartbeats 1000000 in
theorem right_raw (n : Nat) (a0 a1 a2 a3 a4 a5 a6 a7 xp xa xh xs : Int) (w : World) (h3 : 3 ≤ n) (h8 : n ≤ 8) (hr : ∀ k, k < 10 → 0 ≤ [a0, a1, a2, a3, a4, a5, a6, a7, xp, xa, xh, xs].getD (ord k) 0 ∧ [a0, a1, a2, a3, a4, a5, a6, a7, xp, xa, xh, xs].getD (ord k) 0 ≤ ms n k) (hp : 0 ≤ xp ∧ xp < n) (hs : 0 ≤ xs ∧ xs < n) :
  Calls Tryz.prog 65 #[.int .i64 n, .agg #[.int .i64 a0, .int .i64 a1, .int .i64 a2, .int .i64 a3, .int .i64 a4, .int .i64 a5, .int .i64 a6, .int .i64 a7, .int .i64 xp, .int .i64 xa, .int .i64 xh, .int .i64 xs]] w fun e w' => e = .returned (.bool true) ∧ Below w.heap.size w w' := by
 have kc := fun W => clean_calls n a0 a1 a2 a3 a4 a5 a6 a7 xp xa xh xs W h3 h8
 rw [show cl xa (2 * (n : Int) + 1) = xa from cl_id (hr 0 (by omega)), show cl xh (2 * (n : Int)) = xh from cl_id (hr 1 (by omega)), show cl a0 (Wm.most n 0) = a0 from cl_id (hr 2 (by omega)), show cl a1 (Wm.most n 1) = a1 from cl_id (hr 3 (by omega)), show cl a2 (Wm.most n 2) = a2 from cl_id (hr 4 (by omega)), show cl a3 (Wm.most n 3) = a3 from cl_id (hr 5 (by omega)), show cl a4 (Wm.most n 4) = a4 from cl_id (hr 6 (by omega)), show cl a5 (Wm.most n 5) = a5 from cl_id (hr 7 (by omega)), show cl a6 (Wm.most n 6) = a6 from cl_id (hr 8 (by omega)), show cl a7 (Wm.most n 7) = a7 from cl_id (hr 9 (by omega)), Int.emod_eq_of_lt hp.1 hp.2, Int.emod_eq_of_lt hs.1 hs.2] at kc
 have he := eqHub a0 a1 a2 a3 a4 a5 a6 a7 xp xa xh xs
 have KC := Lib.hid kc
 clear kc hr hp hs
 go_enter Tryz.func65, Tryz.ntmps65
 go_wp2_with fail
 refine (KC.out _).mono ?_
 rintro e w1 ⟨rfl, b1⟩
 have p0 := Kit.cell_new b1 0 rfl
 have p1 := Kit.cell_new b1 1 rfl
 have p2 := Kit.cell_new b1 2 rfl
 have p3 := Kit.cell_new b1 3 rfl
 have p4 := Kit.cell_new b1 4 rfl
 have p5 := Kit.cell_new b1 5 rfl
 have p6 := Kit.cell_new b1 6 rfl
 have p7 := Kit.cell_new b1 7 rfl
 have p8 := Kit.cell_new b1 8 rfl
 have p9 := Kit.cell_new b1 9 rfl
 have p10 := Kit.cell_new b1 10 rfl
 have p11 := Kit.cell_new b1 11 rfl
 have hlt := Kit.lt_new b1
 have HB := Lib.hid (Kit.chain ((Below.refl _ _).alloc (Nat.le_refl _) _) b1)
 clear b1
 go_wp2_with fail
 go_ret
 refine ⟨rfl, ?_⟩
 repeat' (first | (with_reducible exact HB.out) | (with_reducible refine Below.setCell ?_ ?_ _) | (with_reducible refine Below.alloc ?_ ?_ _) | (with_reducible refine Below.drew ?_))
 all_goals (first | omega | (simp; done) | (simp; omega))
theorem right_calls (n : Nat) (h : Hb) (w : World) (h3 : 3 ≤ n) (h8 : n ≤ 8) (r : Wm.Right n h) :
  Calls Tryz.prog 65 #[.int .i64 n, h.val] w fun e w' => e = .returned (.bool true) ∧ Below w.heap.size w w' :=
 right_raw n _ _ _ _ _ _ _ _ _ _ _ _ w h3 h8 (fields_in h8 r) r.port r.pos
end Vote
end Go.Proofs.YtgiojagdmglinaaGreatDoor
