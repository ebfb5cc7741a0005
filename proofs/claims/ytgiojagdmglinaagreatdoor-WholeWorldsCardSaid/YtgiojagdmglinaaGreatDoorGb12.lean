/-
  Part 12 of a merged text.
-/
import Derived.Test.YtgiojagdmglinaaGreatDoorGb11
set_option linter.unusedVariables false
set_option linter.unusedSimpArgs false
set_option maxRecDepth 100000
namespace Go.Proofs.YtgiojagdmglinaaGreatDoor
open Go.RowKit Vote
namespace Gate
set_option maxHeartbeats 1000000 in
theorem check_calls (n cap : Nat) (A : Option Addr) (h : Hb) (l : List Fr) (w : World) (h3 : 3 ≤ n) (h8 : n ≤ 8) (r : Wm.Right n h) (hl : Frames w A n l) (hf : Wm.Fit n l) :
  Calls Tryz.prog 126 #[.int .i64 n, h.val, .slice A n cap] w fun e w' => e = .returned (.int .i64 0) ∧ Below w.heap.size w w' := by
 have kr := fun W => right_calls n h W h3 h8 r
 have kf := fun W (hW : Below w.heap.size w W) => fits_calls n cap A l W h3 h8 (hl.below hW) hf
 unfold Hb.val at kr ⊢
 have KR := Lib.hid kr
 have KF := Lib.hid kf
 clear kr kf r hl hf
 go_enter Tryz.func126, Tryz.ntmps126
 go_wp2_with fail
 refine (KR.out _).mono ?_
 rintro e w1 ⟨rfl, b⟩
 have HB := Lib.hid (Kit.chain (Kit.alloc1 w #[.int .i64 (h.ag 0), .int .i64 (h.ag 1), .int .i64 (h.ag 2), .int .i64 (h.ag 3), .int .i64 (h.ag 4), .int .i64 (h.ag 5), .int .i64 (h.ag 6), .int .i64 (h.ag 7), .int .i64 h.port, .int .i64 h.age, .int .i64 h.hold, .int .i64 h.pos] 28) b)
 clear b
 go_wp2_with fail
 refine (KF.out _ HB.out).mono ?_
 rintro e w2 ⟨rfl, b⟩
 have HB2 := Lib.hid (HB.out.trans (b.mono HB.out.size))
 clear b
 go_wp2_with fail
 go_ret
 exact ⟨rfl, HB2.out⟩
def nt (h : Hb) (l : List Fr) : Nat → List Int
 | 0 => Wm.nums h
 | k + 1 => if (frAt l k).k = 2 then (nt h l k).set k 0 else nt h l k
theorem nt_len (h : Hb) (l : List Fr) (k : Nat) : (nt h l k).length = 12 := by
 induction k with
 | zero => rfl
 | succ k ih => unfold nt; split <;> simp [ih]
theorem nt_at (h : Hb) (l : List Fr) (o : Nat) : ∀ k, k ≤ 8 → o < 12 → (nt h l k).getD o 0 = if o < k ∧ (frAt l o).k = 2 then 0 else (Wm.nums h).getD o 0
 | 0, _, _ => by rw [if_neg (by omega)]; rfl
 | k + 1, hk, ho => by
  have ih := nt_at h l o k (by omega) ho
  unfold nt
  by_cases c : (frAt l k).k = 2
  ·rw [if_pos c]
   by_cases e : o = k
   ·subst e
    rw [if_pos ⟨by omega, c⟩, List.getD_eq_getElem?_getD, List.getElem?_set_self (by rw [nt_len]; exact ho)]; rfl
   ·rw [List.getD_eq_getElem?_getD, List.getElem?_set_ne (fun h => e h.symm), ← List.getD_eq_getElem?_getD, ih]
    by_cases c2 : o < k ∧ (frAt l o).k = 2
    ·rw [if_pos c2, if_pos ⟨by omega, c2.2⟩]
    ·rw [if_neg c2, if_neg (fun h => c2 ⟨by omega, h.2⟩)]
  ·rw [if_neg c, ih]
   by_cases e : o = k
   ·subst e
    rw [if_neg (fun h => c h.2), if_neg (fun h => c h.2)]
   ·by_cases c2 : o < k ∧ (frAt l o).k = 2
    ·rw [if_pos c2, if_pos ⟨by omega, c2.2⟩]
    ·rw [if_neg c2, if_neg (fun h => c2 ⟨by omega, h.2⟩)]
theorem nt_note (n : Nat) (h : Hb) (l : List Fr) (h8 : n ≤ 8) : nt h l n = Wm.nums (Wm.note n h l) := by
 have ag : ∀ p, p < 8 → (Wm.note n h l).ag p = if p < n ∧ (frAt l p).k = 2 then 0 else h.ag p := fun p hp => Wm.eight_ag' _ p hp _ _ _ _
 apply List.ext_getElem?
 intro o
 by_cases ho : o < 12
 ·have a := nt_at h l o n h8 ho
  have b : (Wm.nums (Wm.note n h l)).getD o 0 = if o < n ∧ (frAt l o).k = 2 then 0 else (Wm.nums h).getD o 0 := by
   match o, ho with
   | 0, _ => exact ag 0 (by omega)
   | 1, _ => exact ag 1 (by omega)
   | 2, _ => exact ag 2 (by omega)
   | 3, _ => exact ag 3 (by omega)
   | 4, _ => exact ag 4 (by omega)
   | 5, _ => exact ag 5 (by omega)
   | 6, _ => exact ag 6 (by omega)
   | 7, _ => exact ag 7 (by omega)
   | 8, _ => rw [if_neg (by omega)]; rfl
   | 9, _ => rw [if_neg (by omega)]; rfl
   | 10, _ => rw [if_neg (by omega)]; rfl
   | 11, _ => rw [if_neg (by omega)]; rfl
  rw [← b] at a
  have l1 := nt_len h l n
  have l2 : (Wm.nums (Wm.note n h l)).length = 12 := rfl
  simp only [List.getD_eq_getElem?_getD] at a
  rw [List.getElem?_eq_getElem (by omega), List.getElem?_eq_getElem (by omega)] at a ⊢
  simpa using a
 ·rw [List.getElem?_eq_none (by rw [nt_len]; omega), List.getElem?_eq_none (by show 12 ≤ o; omega)]
set_option maxHeartbeats 2000000 in
theorem note_calls (n cap : Nat) (A : Option Addr) (h : Hb) (l : List Fr) (w : World) (h3 : 3 ≤ n) (h8 : n ≤ 8) (r : Wm.Right n h) (hl : Frames w A n l) (hf : Wm.Fit n l) :
  Calls Tryz.prog 116 #[.int .i64 n, h.val, .slice A n cap] w fun e w' => e = .returned (.tuple #[(Wm.note n h l).val, .int .i64 0]) ∧ Below w.heap.size w w' := by
 have kc := fun W (hW : Below w.heap.size w W) => check_calls n cap A h l W h3 h8 r (hl.below hW) hf
 unfold Hb.val at kc ⊢
 have KC := Lib.hid kc
 have HL := Lib.hid hl
 have H8 := Lib.hid h8
 clear kc r hl hf
 go_enter Tryz.func116, Tryz.ntmps116
 go_wp2_with fail
 have q0 : Kit.Row ((w.alloc (.cells #[.int .i64 (h.ag 0), .int .i64 (h.ag 1), .int .i64 (h.ag 2), .int .i64 (h.ag 3), .int .i64 (h.ag 4), .int .i64 (h.ag 5), .int .i64 (h.ag 6), .int .i64 (h.ag 7), .int .i64 h.port, .int .i64 h.age, .int .i64 h.hold, .int .i64 h.pos] 28)).alloc (.cells #[.int .i64 0, .int .i64 0, .int .i64 0, .int .i64 0, .int .i64 0, .int .i64 0, .int .i64 0, .int .i64 0, .int .i64 0, .int .i64 0, .int .i64 0, .int .i64 0] 28)) w.heap.size (ints (Wm.nums h)) := (Kit.Row.new w _ _).alloc _
 have q1 : Kit.Row ((w.alloc (.cells #[.int .i64 (h.ag 0), .int .i64 (h.ag 1), .int .i64 (h.ag 2), .int .i64 (h.ag 3), .int .i64 (h.ag 4), .int .i64 (h.ag 5), .int .i64 (h.ag 6), .int .i64 (h.ag 7), .int .i64 h.port, .int .i64 h.age, .int .i64 h.hold, .int .i64 h.pos] 28)).alloc (.cells #[.int .i64 0, .int .i64 0, .int .i64 0, .int .i64 0, .int .i64 0, .int .i64 0, .int .i64 0, .int .i64 0, .int .i64 0, .int .i64 0, .int .i64 0, .int .i64 0] 28)) (w.heap.size + 1) (ints [0, 0, 0, 0, 0, 0, 0, 0, 0, 0, 0, 0]) := Kit.Row.newAt _ _ _ _ (by simp)
 have qb := Kit.alloc2 w #[.int .i64 (h.ag 0), .int .i64 (h.ag 1), .int .i64 (h.ag 2), .int .i64 (h.ag 3), .int .i64 (h.ag 4), .int .i64 (h.ag 5), .int .i64 (h.ag 6), .int .i64 (h.ag 7), .int .i64 h.port, .int .i64 h.age, .int .i64 h.hold, .int .i64 h.pos] #[.int .i64 0, .int .i64 0, .int .i64 0, .int .i64 0, .int .i64 0, .int .i64 0, .int .i64 0, .int .i64 0, .int .i64 0, .int .i64 0, .int .i64 0, .int .i64 0] 28 28
 generalize (w.alloc (.cells #[.int .i64 (h.ag 0), .int .i64 (h.ag 1), .int .i64 (h.ag 2), .int .i64 (h.ag 3), .int .i64 (h.ag 4), .int .i64 (h.ag 5), .int .i64 (h.ag 6), .int .i64 (h.ag 7), .int .i64 h.port, .int .i64 h.age, .int .i64 h.hold, .int .i64 h.pos] 28)).alloc (.cells #[.int .i64 0, .int .i64 0, .int .i64 0, .int .i64 0, .int .i64 0, .int .i64 0, .int .i64 0, .int .i64 0, .int .i64 0, .int .i64 0, .int .i64 0, .int .i64 0] 28) = w2 at *
 refine (KC.out _ qb).mono ?_
 rintro e w3 ⟨rfl, b3⟩
 have R0 := q0.below b3
 have R1 := Lib.hid (q1.below b3)
 have HB := Lib.hid (qb.trans (b3.mono qb.size))
 clear q0 q1 qb b3
 go_wp2_with fail
 go_loopw [9, 10, 21] (fun _ _ vi wr => ∃ k : Nat, k ≤ n ∧ vi = .int .i64 k ∧ Kit.Row wr w.heap.size (ints (nt h l k)) ∧ Hid (Kit.Row wr (w.heap.size + 1) (ints [0, 0, 0, 0, 0, 0, 0, 0, 0, 0, 0, 0])) ∧ Hid (Below w.heap.size w wr)) (fun _ _ vi _ => n - (intOf vi).toNat)
 case atStart => exact ⟨0, by omega, rfl, R0, R1, HB⟩
 case round =>
  clear R0 R1 HB
  obtain ⟨k, hk, rfl, R0, R1, HB⟩ := hrel
  by_cases hlt : k < n
  ·obtain ⟨b, off, rfl, hb, m0, m1⟩ := HL.out.at_ hlt
   replace m0 := (HB.out.cell (p := ⟨b, off + k * 2, none⟩) hb).trans m0
   replace m1 := (HB.out.cell (p := ⟨b, off + k * 2 + 1, none⟩) hb).trans m1
   have ck := R0.at_ _ _ (ints_at (nt h l k) k (by rw [nt_len]; omega))
   have fk := R0.free k (by rw [ints_len, nt_len]; omega)
   have lb := R0.lt
   have lb2 := Nat.lt_of_lt_of_le hb HB.out.size
   have hs : nt h l (k + 1) = if (frAt l k).k = 2 then (nt h l k).set k 0 else nt h l k := rfl
   have RH := Lib.hid R0
   clear R0
   generalize (nt h l k).getD k 0 = y at ck
   generalize frAt l k = f at *
   obtain ⟨fk1, fk2⟩ := f
   simp only at m0 m1 hs
   by_cases hk2 : fk1 = 2
   ·rw [if_pos hk2] at hs
    have HS := Lib.hid ((ints_set (nt h l k) k 0).trans (congrArg ints hs.symm))
    have g2 : (fk1 == 2) = true := by rw [hk2]; rfl
    clear hs hk2
    have hno : k < (ints (nt h l k)).length := by rw [ints_len, nt_len]; omega
    have RS := Lib.hid ((RH.out.set k (.int .i64 0) hno).cast HS.out)
    have RS1 := Lib.hid (R1.out.far w.heap.size k (.int .i64 0) (by omega))
    have HBS := Lib.hid (HB.out.setCell (p := ⟨w.heap.size, k, none⟩) (Nat.le_refl _) (.int .i64 0))
    clear hno
    go_wp2_with fail
    go_roundw
    case rel => exact ⟨k + 1, by omega, by go_num, RS.out.alloc _, Lib.hid (RS1.out.alloc _), Lib.hid (HBS.out.alloc HBS.out.size _)⟩
    case measure => simp [intOf]; omega
   ·rw [if_neg hk2] at hs
    have HS := Lib.hid (congrArg ints hs.symm)
    have g2 : (fk1 == 2) = false := beq_eq_false_iff_ne.2 hk2
    clear hs hk2
    go_wp2_with fail
    go_roundw
    case rel => exact ⟨k + 1, by omega, by go_num, (RH.out.alloc _).cast HS.out, Lib.hid (R1.out.alloc _), Lib.hid (HB.out.alloc HB.out.size _)⟩
    case measure => simp [intOf]; omega
  ·obtain rfl : k = n := by omega
   rw [nt_note k h l H8.out] at R0
   have c0 := R0.at_ 0 (.int .i64 ((Wm.note k h l).ag 0)) rfl
   have c1 := R0.at_ 1 (.int .i64 ((Wm.note k h l).ag 1)) rfl
   have c2 := R0.at_ 2 (.int .i64 ((Wm.note k h l).ag 2)) rfl
   have c3 := R0.at_ 3 (.int .i64 ((Wm.note k h l).ag 3)) rfl
   have c4 := R0.at_ 4 (.int .i64 ((Wm.note k h l).ag 4)) rfl
   have c5 := R0.at_ 5 (.int .i64 ((Wm.note k h l).ag 5)) rfl
   have c6 := R0.at_ 6 (.int .i64 ((Wm.note k h l).ag 6)) rfl
   have c7 := R0.at_ 7 (.int .i64 ((Wm.note k h l).ag 7)) rfl
   have c8 := R0.at_ 8 (.int .i64 ((Wm.note k h l).port)) rfl
   have c9 := R0.at_ 9 (.int .i64 ((Wm.note k h l).age)) rfl
   have c10 := R0.at_ 10 (.int .i64 ((Wm.note k h l).hold)) rfl
   have c11 := R0.at_ 11 (.int .i64 ((Wm.note k h l).pos)) rfl
   have g0 := R1.out.at_ 0 (.int .i64 0) rfl
   have g1 := R1.out.at_ 1 (.int .i64 0) rfl
   have g2 := R1.out.at_ 2 (.int .i64 0) rfl
   have g3 := R1.out.at_ 3 (.int .i64 0) rfl
   have g4 := R1.out.at_ 4 (.int .i64 0) rfl
   have g5 := R1.out.at_ 5 (.int .i64 0) rfl
   have g6 := R1.out.at_ 6 (.int .i64 0) rfl
   have g7 := R1.out.at_ 7 (.int .i64 0) rfl
   have g8 := R1.out.at_ 8 (.int .i64 0) rfl
   have g9 := R1.out.at_ 9 (.int .i64 0) rfl
   have g10 := R1.out.at_ 10 (.int .i64 0) rfl
   have g11 := R1.out.at_ 11 (.int .i64 0) rfl
   have f0 := R1.out.free 0 (by simp [ints])
   have f1 := R1.out.free 1 (by simp [ints])
   have f2 := R1.out.free 2 (by simp [ints])
   have f3 := R1.out.free 3 (by simp [ints])
   have f4 := R1.out.free 4 (by simp [ints])
   have f5 := R1.out.free 5 (by simp [ints])
   have f6 := R1.out.free 6 (by simp [ints])
   have f7 := R1.out.free 7 (by simp [ints])
   have f8 := R1.out.free 8 (by simp [ints])
   have f9 := R1.out.free 9 (by simp [ints])
   have f10 := R1.out.free 10 (by simp [ints])
   have f11 := R1.out.free 11 (by simp [ints])
   have hlt := R1.out.lt
   clear R0
   go_wp2_with fail
   have r6 := ((((((((((((R1.out.set 0 (.int .i64 ((Wm.note k h l).ag 0)) (by simp [ints])).set 1 (.int .i64 ((Wm.note k h l).ag 1)) (by simp [ints])).set 2 (.int .i64 ((Wm.note k h l).ag 2)) (by simp [ints])).set 3 (.int .i64 ((Wm.note k h l).ag 3)) (by simp [ints])).set 4 (.int .i64 ((Wm.note k h l).ag 4)) (by simp [ints])).set 5 (.int .i64 ((Wm.note k h l).ag 5)) (by simp [ints])).set 6 (.int .i64 ((Wm.note k h l).ag 6)) (by simp [ints])).set 7 (.int .i64 ((Wm.note k h l).ag 7)) (by simp [ints])).set 8 (.int .i64 ((Wm.note k h l).port)) (by simp [ints])).set 9 (.int .i64 ((Wm.note k h l).age)) (by simp [ints])).set 10 (.int .i64 ((Wm.note k h l).hold)) (by simp [ints])).set 11 (.int .i64 ((Wm.note k h l).pos)) (by simp [ints]))
   have k0 := r6.at_ 0 (.int .i64 ((Wm.note k h l).ag 0)) rfl
   have k1 := r6.at_ 1 (.int .i64 ((Wm.note k h l).ag 1)) rfl
   have k2 := r6.at_ 2 (.int .i64 ((Wm.note k h l).ag 2)) rfl
   have k3 := r6.at_ 3 (.int .i64 ((Wm.note k h l).ag 3)) rfl
   have k4 := r6.at_ 4 (.int .i64 ((Wm.note k h l).ag 4)) rfl
   have k5 := r6.at_ 5 (.int .i64 ((Wm.note k h l).ag 5)) rfl
   have k6 := r6.at_ 6 (.int .i64 ((Wm.note k h l).ag 6)) rfl
   have k7 := r6.at_ 7 (.int .i64 ((Wm.note k h l).ag 7)) rfl
   have k8 := r6.at_ 8 (.int .i64 ((Wm.note k h l).port)) rfl
   have k9 := r6.at_ 9 (.int .i64 ((Wm.note k h l).age)) rfl
   have k10 := r6.at_ 10 (.int .i64 ((Wm.note k h l).hold)) rfl
   have k11 := r6.at_ 11 (.int .i64 ((Wm.note k h l).pos)) rfl
   clear r6
   refine bodyPost_ret (v := .tuple #[.agg #[.int .i64 ((Wm.note k h l).ag 0), .int .i64 ((Wm.note k h l).ag 1), .int .i64 ((Wm.note k h l).ag 2), .int .i64 ((Wm.note k h l).ag 3), .int .i64 ((Wm.note k h l).ag 4), .int .i64 ((Wm.note k h l).ag 5), .int .i64 ((Wm.note k h l).ag 6), .int .i64 ((Wm.note k h l).ag 7), .int .i64 ((Wm.note k h l).port), .int .i64 ((Wm.note k h l).age), .int .i64 ((Wm.note k h l).hold), .int .i64 ((Wm.note k h l).pos)], .int .i64 0]) (by simp [results, Tryz.results116, go_sem, k0, k1, k2, k3, k4, k5, k6, k7, k8, k9, k10, k11, hlt]) rfl ⟨rfl, ?_⟩
   repeat' (first | (with_reducible exact HB.out) | (with_reducible refine Below.setCell ?_ ?_ _) | (with_reducible refine Below.alloc ?_ ?_ _) | (with_reducible refine Below.drew ?_))
   all_goals (first | omega | (simp; done) | (simp; omega))
end Gate
end Go.Proofs.YtgiojagdmglinaaGreatDoor
