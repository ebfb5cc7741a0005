/-
  Part 17 of a merged text.
-/
import Derived.Test.YtgiojagdmglinaaGreatDoorGb08
import Derived.Test.YtgiojagdmglinaaGreatDoorGb06
import Derived.StillTailTactics
set_option linter.unusedVariables false
set_option linter.unusedSimpArgs false
set_option maxRecDepth 100000
namespace Go.Proofs.YtgiojagdmglinaaGreatDoor
open Go.RowKit
namespace Vote
set_option maxHeartbeats 2000000 in
theorem tick_raw (n : Nat) (a0 a1 a2 a3 a4 a5 a6 a7 xp xa xh xs : Int) (w : World) (h3 : 3 ≤ n) (h8 : n ≤ 8) (hr : ∀ k, k < 10 → 0 ≤ [a0, a1, a2, a3, a4, a5, a6, a7, xp, xa, xh, xs].getD (ord k) 0 ∧ [a0, a1, a2, a3, a4, a5, a6, a7, xp, xa, xh, xs].getD (ord k) 0 ≤ ms n k) (hp : 0 ≤ xp ∧ xp < n) (hs : 0 ≤ xs ∧ xs < n) :
  Calls Tryz.prog 115 #[.int .i64 n, .agg #[.int .i64 a0, .int .i64 a1, .int .i64 a2, .int .i64 a3, .int .i64 a4, .int .i64 a5, .int .i64 a6, .int .i64 a7, .int .i64 xp, .int .i64 xa, .int .i64 xh, .int .i64 xs]] w fun e w' => e = .returned (.tuple #[.agg #[.int .i64 (Wm.up a0 (Wm.most n 0)), .int .i64 (Wm.up a1 (Wm.most n 1)), .int .i64 (Wm.up a2 (Wm.most n 2)), .int .i64 (Wm.up a3 (Wm.most n 3)), .int .i64 (Wm.up a4 (Wm.most n 4)), .int .i64 (Wm.up a5 (Wm.most n 5)), .int .i64 (Wm.up a6 (Wm.most n 6)), .int .i64 (Wm.up a7 (Wm.most n 7)), .int .i64 xp, .int .i64 (Wm.up xa (2 * n + 1)), .int .i64 (max xh 1 - 1), .int .i64 (Wm.nx n xs)], .int .i64 0]) ∧ Below w.heap.size w w' := by
 have kr := fun W => right_raw n a0 a1 a2 a3 a4 a5 a6 a7 xp xa xh xs W h3 h8 hr hp hs
 have kf := fun W => fields_calls n w.heap.size W h3 h8
 have hh : 0 ≤ xh ∧ xh ≤ 2 * (n : Int) := hr 1 (by omega)
 have kd := fun W => Tal.down_calls xh W hh.1 (by omega)
 have ku := fun v m (h : 0 ≤ v ∧ v ≤ m) (hm : m ≤ 1073741824) W => Tal.up_calls v m W h.1 ⟨by omega, hm⟩ h.2
 have kn := fun W => Tal.next_calls (n : Int) xs W (by omega) (by omega) hs
 have KR := Lib.hid kr
 have KF := Lib.hid kf
 have KD := Lib.hid kd
 have KU := Lib.hid ku
 have KN := Lib.hid kn
 have H3 := Lib.hid h3
 have H8 := Lib.hid h8
 have HR := Lib.hid hr
 clear kr kf kd ku kn h3 h8 hr hp hs hh
 go_enter Tryz.func115, Tryz.ntmps115
 go_wp2_with fail
 have q0 : Kit.Row ((w.alloc (.cells #[.int .i64 a0, .int .i64 a1, .int .i64 a2, .int .i64 a3, .int .i64 a4, .int .i64 a5, .int .i64 a6, .int .i64 a7, .int .i64 xp, .int .i64 xa, .int .i64 xh, .int .i64 xs] 28)).alloc (.cells #[.int .i64 0, .int .i64 0, .int .i64 0, .int .i64 0, .int .i64 0, .int .i64 0, .int .i64 0, .int .i64 0, .int .i64 0, .int .i64 0, .int .i64 0, .int .i64 0] 28)) w.heap.size (ints [a0, a1, a2, a3, a4, a5, a6, a7, xp, xa, xh, xs]) := (Kit.Row.new w _ _).alloc _
 have q1 : Kit.Row ((w.alloc (.cells #[.int .i64 a0, .int .i64 a1, .int .i64 a2, .int .i64 a3, .int .i64 a4, .int .i64 a5, .int .i64 a6, .int .i64 a7, .int .i64 xp, .int .i64 xa, .int .i64 xh, .int .i64 xs] 28)).alloc (.cells #[.int .i64 0, .int .i64 0, .int .i64 0, .int .i64 0, .int .i64 0, .int .i64 0, .int .i64 0, .int .i64 0, .int .i64 0, .int .i64 0, .int .i64 0, .int .i64 0] 28)) (w.heap.size + 1) (ints [0, 0, 0, 0, 0, 0, 0, 0, 0, 0, 0, 0]) := Kit.Row.newAt _ _ _ _ (by simp)
 have qb := Kit.alloc2 w #[.int .i64 a0, .int .i64 a1, .int .i64 a2, .int .i64 a3, .int .i64 a4, .int .i64 a5, .int .i64 a6, .int .i64 a7, .int .i64 xp, .int .i64 xa, .int .i64 xh, .int .i64 xs] #[.int .i64 0, .int .i64 0, .int .i64 0, .int .i64 0, .int .i64 0, .int .i64 0, .int .i64 0, .int .i64 0, .int .i64 0, .int .i64 0, .int .i64 0, .int .i64 0] 28 28
 generalize (w.alloc (.cells #[.int .i64 a0, .int .i64 a1, .int .i64 a2, .int .i64 a3, .int .i64 a4, .int .i64 a5, .int .i64 a6, .int .i64 a7, .int .i64 xp, .int .i64 xa, .int .i64 xh, .int .i64 xs] 28)).alloc (.cells #[.int .i64 0, .int .i64 0, .int .i64 0, .int .i64 0, .int .i64 0, .int .i64 0, .int .i64 0, .int .i64 0, .int .i64 0, .int .i64 0, .int .i64 0, .int .i64 0] 28) = w2 at *
 refine (KR.out _).mono ?_
 rintro e w3 ⟨rfl, b3⟩
 replace q0 := q0.below b3
 replace q1 := q1.below b3
 replace qb := qb.trans (b3.mono qb.size)
 have p10 := q0.at_ 10 (.int .i64 xh) rfl
 clear b3
 go_wp2_with fail
 refine (KD.out _).mono ?_
 rintro e w4 ⟨rfl, rfl⟩
 go_wp2_with fail
 refine (KF.out _).mono ?_
 rintro e w4 ⟨v, rfl, hown, b4⟩
 obtain ⟨g, cap, rfl, hg, rg⟩ := own_row hown
 have hg1 : w.heap.size + 1 < g := Nat.lt_of_lt_of_le q1.lt hg
 have R0 := q0.below b4
 have R1 := Lib.hid (q1.below b4)
 have RG := Lib.hid rg
 have HB := Lib.hid (qb.trans (b4.mono qb.size))
 clear q0 q1 qb hown b4 hg rg p10
 go_wp2_with fail
 go_loopw [8, 20] (fun _ vi wr => ∃ k : Nat, k ≤ 10 ∧ vi = .int .i64 k ∧ Kit.Row wr w.heap.size (ints (upd Wm.up n [a0, a1, a2, a3, a4, a5, a6, a7, xp, xa, xh, xs] k)) ∧ Hid (Kit.Row wr (w.heap.size + 1) (ints [0, 0, 0, 0, 0, 0, 0, 0, 0, 0, 0, 0])) ∧ Hid (Kit.Row wr g (fcells w.heap.size n 10)) ∧ Hid (Below w.heap.size w wr)) (fun _ vi _ => 10 - (intOf vi).toNat)
 case atStart => exact ⟨0, by omega, rfl, R0, R1, RG, HB⟩
 case round =>
  clear R0 R1 RG HB
  obtain ⟨k, hk, rfl, R0, R1, RG, HB⟩ := hrel
  by_cases hlt : k < 10
  ·have m0 := (Row.field RG.out hlt).1
   have m1 := (Row.field RG.out hlt).2
   have hord : ord k < (upd Wm.up n [a0, a1, a2, a3, a4, a5, a6, a7, xp, xa, xh, xs] k).length := by rw [upd_len]; exact ord_lt hlt
   have c0 := R0.at_ _ _ (ints_at (upd Wm.up n [a0, a1, a2, a3, a4, a5, a6, a7, xp, xa, xh, xs] k) (ord k) hord)
   have f0 := R0.free (ord k) (by rw [ints_len]; exact hord)
   have hcur := upd_cur Wm.up n [a0, a1, a2, a3, a4, a5, a6, a7, xp, xa, xh, xs] k hlt
   have hset : (ints (upd Wm.up n [a0, a1, a2, a3, a4, a5, a6, a7, xp, xa, xh, xs] k)).set (ord k) (.int .i64 (Wm.up ((upd Wm.up n [a0, a1, a2, a3, a4, a5, a6, a7, xp, xa, xh, xs] k).getD (ord k) 0) (ms n k))) = ints (upd Wm.up n [a0, a1, a2, a3, a4, a5, a6, a7, xp, xa, xh, xs] (k + 1)) := by rw [ints_set]; rfl
   have HSET := Lib.hid hset
   have HO : Hid (ord k < (ints (upd Wm.up n [a0, a1, a2, a3, a4, a5, a6, a7, xp, xa, xh, xs] k)).length) := Lib.hid (by rw [ints_len]; exact hord)
   have lb := R0.lt
   have lg := RG.out.lt
   have RH := Lib.hid R0
   clear hset hord R0
   have hv := HR.out k hlt
   rw [← hcur] at hv
   have hm := (ms_in n k H8.out).2
   have KU1 := Lib.hid (KU.out _ _ hv (by omega))
   clear hcur hv hm
   generalize (upd Wm.up n [a0, a1, a2, a3, a4, a5, a6, a7, xp, xa, xh, xs] k).getD (ord k) 0 = v at *
   go_wp2_with fail
   have RW := Lib.hid (RH.out.alloc (.cells #[.pointer (some ⟨w.heap.size, ord k, none⟩), .int .i64 (ms n k)] 133))
   have R1W := Lib.hid (R1.out.alloc (.cells #[.pointer (some ⟨w.heap.size, ord k, none⟩), .int .i64 (ms n k)] 133))
   have RGW := Lib.hid (RG.out.alloc (.cells #[.pointer (some ⟨w.heap.size, ord k, none⟩), .int .i64 (ms n k)] 133))
   have HBW := Lib.hid (HB.out.alloc HB.out.size (.cells #[.pointer (some ⟨w.heap.size, ord k, none⟩), .int .i64 (ms n k)] 133))
   have d2 := Kit.cell_below (Kit.alloc1 wr #[.pointer (some ⟨w.heap.size, ord k, none⟩), .int .i64 (ms n k)] 133) c0
   have d3 := Kit.free_below (Kit.alloc1 wr #[.pointer (some ⟨w.heap.size, ord k, none⟩), .int .i64 (ms n k)] 133) c0 f0
   have RN := Kit.Row.new wr #[.pointer (some ⟨w.heap.size, ord k, none⟩), .int .i64 (ms n k)] 133
   generalize wr.alloc (.cells #[.pointer (some ⟨w.heap.size, ord k, none⟩), .int .i64 (ms n k)] 133) = W at *
   generalize wr.heap.size = z at *
   have d0 := RN.at_ 0 _ rfl
   have d1 := RN.at_ 1 _ rfl
   clear c0 f0 m0 m1 RN
   refine wp_region_still_tail 10 (by kernel_rfl) (by kernel_rfl) ?_
   simp only [List.take_succ_cons, List.take_zero, List.drop_succ_cons, List.drop_zero]
   change wpStill _ _ W.drew (fun a' => wpList _ _ _ _ a' W.drew) _ _
   repeat still_step
   still_call ((KU1.out _).mono fun e w' h => ⟨h.1, h.2.symm⟩)
   repeat still_step
   refine wpStill_nil ?_
   generalize hD : W.drew = D
   have d4 : D.frozen? ⟨w.heap.size, ord k, none⟩ = false := hD ▸ d3
   have d5 : D.cell? ⟨w.heap.size, ord k, none⟩ = some (.int .i64 v) := hD ▸ d2
   have RD := Lib.hid (hD ▸ RW.out.drew)
   have R1D := Lib.hid (hD ▸ R1W.out.drew)
   have RGD := Lib.hid (hD ▸ RGW.out.drew)
   have HBD := Lib.hid (hD ▸ HBW.out.drew)
   clear d0 d1 d2 d3 hD
   go_wp2_with fail
   go_roundw
   case rel => exact ⟨k + 1, by omega, by go_num, (RD.out.set (ord k) (.int .i64 (Wm.up v (ms n k))) HO.out).cast HSET.out, Lib.hid (R1D.out.far _ _ _ (by omega)), Lib.hid (RGD.out.far _ _ _ (by omega)), Lib.hid (HBD.out.setCell (by simp) _)⟩
   case measure => simp [intOf]; omega
  ·obtain rfl : k = 10 := by omega
   have r0 := R0
   rw [upd_all] at r0
   have p11 := r0.at_ 11 (.int .i64 xs) rfl
   have p10 := r0.at_ 10 (.int .i64 (Wm.up xh (2 * n))) rfl
   have f10 := r0.free 10 (by simp [ints])
   have f11 := r0.free 11 (by simp [ints])
   have r5 := (r0.set 10 (.int .i64 (max xh 1 - 1)) (by simp [ints])).set 11 (.int .i64 (Wm.nx n xs)) (by simp [ints])
   have c0 := r5.at_ 0 (.int .i64 (Wm.up a0 (Wm.most n 0))) rfl
   have c1 := r5.at_ 1 (.int .i64 (Wm.up a1 (Wm.most n 1))) rfl
   have c2 := r5.at_ 2 (.int .i64 (Wm.up a2 (Wm.most n 2))) rfl
   have c3 := r5.at_ 3 (.int .i64 (Wm.up a3 (Wm.most n 3))) rfl
   have c4 := r5.at_ 4 (.int .i64 (Wm.up a4 (Wm.most n 4))) rfl
   have c5 := r5.at_ 5 (.int .i64 (Wm.up a5 (Wm.most n 5))) rfl
   have c6 := r5.at_ 6 (.int .i64 (Wm.up a6 (Wm.most n 6))) rfl
   have c7 := r5.at_ 7 (.int .i64 (Wm.up a7 (Wm.most n 7))) rfl
   have c8 := r5.at_ 8 (.int .i64 xp) rfl
   have c9 := r5.at_ 9 (.int .i64 (Wm.up xa (2 * n + 1))) rfl
   have c10 := r5.at_ 10 (.int .i64 (max xh 1 - 1)) rfl
   have c11 := r5.at_ 11 (.int .i64 (Wm.nx n xs)) rfl
   have s5 := (R1.out.far w.heap.size 10 (.int .i64 (max xh 1 - 1)) (by omega)).far w.heap.size 11 (.int .i64 (Wm.nx n xs)) (by omega)
   have g0 := s5.at_ 0 (.int .i64 0) rfl
   have f0' := s5.free 0 (by simp [ints])
   have g1 := s5.at_ 1 (.int .i64 0) rfl
   have f1' := s5.free 1 (by simp [ints])
   have g2 := s5.at_ 2 (.int .i64 0) rfl
   have f2' := s5.free 2 (by simp [ints])
   have g3 := s5.at_ 3 (.int .i64 0) rfl
   have f3' := s5.free 3 (by simp [ints])
   have g4 := s5.at_ 4 (.int .i64 0) rfl
   have f4' := s5.free 4 (by simp [ints])
   have g5 := s5.at_ 5 (.int .i64 0) rfl
   have f5' := s5.free 5 (by simp [ints])
   have g6 := s5.at_ 6 (.int .i64 0) rfl
   have f6' := s5.free 6 (by simp [ints])
   have g7 := s5.at_ 7 (.int .i64 0) rfl
   have f7' := s5.free 7 (by simp [ints])
   have g8 := s5.at_ 8 (.int .i64 0) rfl
   have f8' := s5.free 8 (by simp [ints])
   have g9 := s5.at_ 9 (.int .i64 0) rfl
   have f9' := s5.free 9 (by simp [ints])
   have g10 := s5.at_ 10 (.int .i64 0) rfl
   have f10' := s5.free 10 (by simp [ints])
   have g11 := s5.at_ 11 (.int .i64 0) rfl
   have f11' := s5.free 11 (by simp [ints])
   have hlt := s5.lt
   have S5 := Lib.hid s5
   clear r5 s5 r0 R0
   go_wp2_with fail
   refine (KN.out _).mono ?_
   rintro e w6 ⟨rfl, rfl⟩
   go_wp2_with fail
   have r6 := ((((((((((((S5.out.set 0 (.int .i64 (Wm.up a0 (Wm.most n 0))) (by simp [ints])).set 1 (.int .i64 (Wm.up a1 (Wm.most n 1))) (by simp [ints])).set 2 (.int .i64 (Wm.up a2 (Wm.most n 2))) (by simp [ints])).set 3 (.int .i64 (Wm.up a3 (Wm.most n 3))) (by simp [ints])).set 4 (.int .i64 (Wm.up a4 (Wm.most n 4))) (by simp [ints])).set 5 (.int .i64 (Wm.up a5 (Wm.most n 5))) (by simp [ints])).set 6 (.int .i64 (Wm.up a6 (Wm.most n 6))) (by simp [ints])).set 7 (.int .i64 (Wm.up a7 (Wm.most n 7))) (by simp [ints])).set 8 (.int .i64 xp) (by simp [ints])).set 9 (.int .i64 (Wm.up xa (2 * n + 1))) (by simp [ints])).set 10 (.int .i64 (max xh 1 - 1)) (by simp [ints])).set 11 (.int .i64 (Wm.nx n xs)) (by simp [ints]))
   have k0 := r6.at_ 0 (.int .i64 (Wm.up a0 (Wm.most n 0))) rfl
   have k1 := r6.at_ 1 (.int .i64 (Wm.up a1 (Wm.most n 1))) rfl
   have k2 := r6.at_ 2 (.int .i64 (Wm.up a2 (Wm.most n 2))) rfl
   have k3 := r6.at_ 3 (.int .i64 (Wm.up a3 (Wm.most n 3))) rfl
   have k4 := r6.at_ 4 (.int .i64 (Wm.up a4 (Wm.most n 4))) rfl
   have k5 := r6.at_ 5 (.int .i64 (Wm.up a5 (Wm.most n 5))) rfl
   have k6 := r6.at_ 6 (.int .i64 (Wm.up a6 (Wm.most n 6))) rfl
   have k7 := r6.at_ 7 (.int .i64 (Wm.up a7 (Wm.most n 7))) rfl
   have k8 := r6.at_ 8 (.int .i64 xp) rfl
   have k9 := r6.at_ 9 (.int .i64 (Wm.up xa (2 * n + 1))) rfl
   have k10 := r6.at_ 10 (.int .i64 (max xh 1 - 1)) rfl
   have k11 := r6.at_ 11 (.int .i64 (Wm.nx n xs)) rfl
   clear r6
   refine bodyPost_ret (v := .tuple #[.agg #[.int .i64 (Wm.up a0 (Wm.most n 0)), .int .i64 (Wm.up a1 (Wm.most n 1)), .int .i64 (Wm.up a2 (Wm.most n 2)), .int .i64 (Wm.up a3 (Wm.most n 3)), .int .i64 (Wm.up a4 (Wm.most n 4)), .int .i64 (Wm.up a5 (Wm.most n 5)), .int .i64 (Wm.up a6 (Wm.most n 6)), .int .i64 (Wm.up a7 (Wm.most n 7)), .int .i64 xp, .int .i64 (Wm.up xa (2 * n + 1)), .int .i64 (max xh 1 - 1), .int .i64 (Wm.nx n xs)], .int .i64 0]) (by simp [results, Tryz.results115, go_sem, k0, k1, k2, k3, k4, k5, k6, k7, k8, k9, k10, k11, hlt]) rfl ⟨rfl, ?_⟩
   repeat' (first | (with_reducible exact HB.out) | (with_reducible refine Below.setCell ?_ ?_ _) | (with_reducible refine Below.alloc ?_ ?_ _) | (with_reducible refine Below.drew ?_))
   all_goals (first | omega | (simp; done) | (simp; omega))
theorem tick_calls (n : Nat) (h : Hb) (w : World) (h3 : 3 ≤ n) (h8 : n ≤ 8) (r : Wm.Right n h) :
  Calls Tryz.prog 115 #[.int .i64 n, h.val] w fun e w' => e = .returned (.tuple #[(Wm.tick n h).val, .int .i64 0]) ∧ Below w.heap.size w w' :=
 tick_raw n _ _ _ _ _ _ _ _ _ _ _ _ w h3 h8 (fields_in h8 r) r.port r.pos
end Vote
end Go.Proofs.YtgiojagdmglinaaGreatDoor
