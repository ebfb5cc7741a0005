/-
  Part 9 of a merged text.
-/
import Derived.Test.YtgiojagdmglinaaGreatDoorGb05
import Derived.Test.YtgiojagdmglinaaGreatDoorGb07
import Derived.Test.YtgiojagdmglinaaGreatDoorGb08
import Derived.Test.YtgiojagdmglinaaGreatDoorGb00
import Derived.Test.YtgiojagdmglinaaGreatDoorProg
import Derived.Test.YtgiojagdmglinaaGreatDoorGb02
import Derived.WalkKit
import Derived.WalkLawsBesides
import Derived.WalkSpells
import Derived.Lib.Hide
import Derived.Deep.LoopGhost
import Derived.Laws.IdiomStrings
import Derived.Deep.QuietTactic
import Derived.BigQuiet
import Derived.BigRegion
import Derived.Test.YtgiojagdmglinaaGreatDoorGb04
import Derived.Test.YtgiojagdmglinaaGreatDoorGb06
set_option linter.unusedVariables false
set_option linter.unusedSimpArgs false
set_option maxRecDepth 100000
namespace Go.Proofs.YtgiojagdmglinaaGreatDoor
open Go.RowKit
def Wd.cells (x : Wd) : List Value := [.int .i64 x.n, .int .i64 x.tick, .int .i64 x.c, .int .i64 x.v, .slice x.pa x.n x.pc, .slice x.na x.n x.nc, .int .i64 (x.h0.ag 0), .int .i64 (x.h0.ag 1), .int .i64 (x.h0.ag 2), .int .i64 (x.h0.ag 3), .int .i64 (x.h0.ag 4), .int .i64 (x.h0.ag 5), .int .i64 (x.h0.ag 6), .int .i64 (x.h0.ag 7), .int .i64 x.h0.port, .int .i64 x.h0.age, .int .i64 x.h0.hold, .int .i64 x.h0.pos, .int .i64 (x.h1.ag 0), .int .i64 (x.h1.ag 1), .int .i64 (x.h1.ag 2), .int .i64 (x.h1.ag 3), .int .i64 (x.h1.ag 4), .int .i64 (x.h1.ag 5), .int .i64 (x.h1.ag 6), .int .i64 (x.h1.ag 7), .int .i64 x.h1.port, .int .i64 x.h1.age, .int .i64 x.h1.hold, .int .i64 x.h1.pos]
namespace Wr
set_option maxHeartbeats 2000000 in
theorem right_calls (x : Wd) (w : World) (hx : x.Right) (ht : x.There w) :
  Calls Tryz.prog 34 #[.agg #[.int .i64 x.n, .int .i64 x.tick, .int .i64 x.c, .int .i64 x.v, .slice x.pa x.n x.pc, .slice x.na x.n x.nc, .int .i64 (x.h0.ag 0), .int .i64 (x.h0.ag 1), .int .i64 (x.h0.ag 2), .int .i64 (x.h0.ag 3), .int .i64 (x.h0.ag 4), .int .i64 (x.h0.ag 5), .int .i64 (x.h0.ag 6), .int .i64 (x.h0.ag 7), .int .i64 x.h0.port, .int .i64 x.h0.age, .int .i64 x.h0.hold, .int .i64 x.h0.pos, .int .i64 (x.h1.ag 0), .int .i64 (x.h1.ag 1), .int .i64 (x.h1.ag 2), .int .i64 (x.h1.ag 3), .int .i64 (x.h1.ag 4), .int .i64 (x.h1.ag 5), .int .i64 (x.h1.ag 6), .int .i64 (x.h1.ag 7), .int .i64 x.h1.port, .int .i64 x.h1.age, .int .i64 x.h1.hold, .int .i64 x.h1.pos]] w fun e w' => e = .returned (.bool true) ∧ Below w.heap.size w w' := by
 obtain ⟨n, tk, c, v, pa, pc, power, na, nc, nodes, h0, h1⟩ := x
 obtain ⟨h3, h8, htk, hf, hpl, hpw, hnl, hnd, r0, r1⟩ := hx
 obtain ⟨tp, tn⟩ := ht
 simp only at *
 have kr := fun W => Cf.right_calls (n : Int) W (by omega) (by omega)
 have kc := fun W => Tal.clamp_calls tk 0 1073741824 W
 have hcl : Tal.clamp tk 0 1073741824 = tk := Vote.cl_id ⟨htk.1, htk.2⟩
 rw [hcl] at kc
 have kn := fun i (hi : i < n) W => Act.right_nr n i (ndAt nodes i) W h3 h8 hi (hnd i hi)
 have hid := fun i (hi : i < n) => (hnd i hi).id
 have kf := fun W => Flt.right_calls (n : Int) c v W (by omega) (by omega)
 rw [hf] at kf
 have kp := fun W (hW : Below w.heap.size w W) => Pw.right_calls pa n pc power W h3 h8 (tp.below hW) hpw
 have k0 := fun W => Vote.right_calls n h0 W h3 h8 r0
 have k1 := fun W => Vote.right_calls n h1 W h3 h8 r1
 unfold Hb.val at k0 k1
 have KR := Lib.hid kr
 have KC := Lib.hid kc
 have KN := Lib.hid kn
 have HID := Lib.hid hid
 have KF := Lib.hid kf
 have KP := Lib.hid kp
 have K0 := Lib.hid k0
 have K1 := Lib.hid k1
 have TN := Lib.hid tn
 have gt : (tk != tk) = false := by simp
 have gn : ((n : Int) != (n : Int)) = false := by simp
 clear kr kc kn hid kf kp k0 k1 tp tn hcl hf hpl hpw hnl hnd r0 r1 htk
 go_enter Tryz.func34, Tryz.ntmps34
 go_wp2_with fail
 have q0 : Kit.Row (w.alloc (.cells #[.int .i64 n, .int .i64 tk, .int .i64 c, .int .i64 v, .slice pa n pc, .slice na n nc, .int .i64 (h0.ag 0), .int .i64 (h0.ag 1), .int .i64 (h0.ag 2), .int .i64 (h0.ag 3), .int .i64 (h0.ag 4), .int .i64 (h0.ag 5), .int .i64 (h0.ag 6), .int .i64 (h0.ag 7), .int .i64 h0.port, .int .i64 h0.age, .int .i64 h0.hold, .int .i64 h0.pos, .int .i64 (h1.ag 0), .int .i64 (h1.ag 1), .int .i64 (h1.ag 2), .int .i64 (h1.ag 3), .int .i64 (h1.ag 4), .int .i64 (h1.ag 5), .int .i64 (h1.ag 6), .int .i64 (h1.ag 7), .int .i64 h1.port, .int .i64 h1.age, .int .i64 h1.hold, .int .i64 h1.pos] 36)) w.heap.size [.int .i64 n, .int .i64 tk, .int .i64 c, .int .i64 v, .slice pa n pc, .slice na n nc, .int .i64 (h0.ag 0), .int .i64 (h0.ag 1), .int .i64 (h0.ag 2), .int .i64 (h0.ag 3), .int .i64 (h0.ag 4), .int .i64 (h0.ag 5), .int .i64 (h0.ag 6), .int .i64 (h0.ag 7), .int .i64 h0.port, .int .i64 h0.age, .int .i64 h0.hold, .int .i64 h0.pos, .int .i64 (h1.ag 0), .int .i64 (h1.ag 1), .int .i64 (h1.ag 2), .int .i64 (h1.ag 3), .int .i64 (h1.ag 4), .int .i64 (h1.ag 5), .int .i64 (h1.ag 6), .int .i64 (h1.ag 7), .int .i64 h1.port, .int .i64 h1.age, .int .i64 h1.hold, .int .i64 h1.pos] := Kit.Row.new w _ _
 have qb := Kit.alloc1 w #[.int .i64 n, .int .i64 tk, .int .i64 c, .int .i64 v, .slice pa n pc, .slice na n nc, .int .i64 (h0.ag 0), .int .i64 (h0.ag 1), .int .i64 (h0.ag 2), .int .i64 (h0.ag 3), .int .i64 (h0.ag 4), .int .i64 (h0.ag 5), .int .i64 (h0.ag 6), .int .i64 (h0.ag 7), .int .i64 h0.port, .int .i64 h0.age, .int .i64 h0.hold, .int .i64 h0.pos, .int .i64 (h1.ag 0), .int .i64 (h1.ag 1), .int .i64 (h1.ag 2), .int .i64 (h1.ag 3), .int .i64 (h1.ag 4), .int .i64 (h1.ag 5), .int .i64 (h1.ag 6), .int .i64 (h1.ag 7), .int .i64 h1.port, .int .i64 h1.age, .int .i64 h1.hold, .int .i64 h1.pos] 36
 generalize w.alloc (.cells #[.int .i64 n, .int .i64 tk, .int .i64 c, .int .i64 v, .slice pa n pc, .slice na n nc, .int .i64 (h0.ag 0), .int .i64 (h0.ag 1), .int .i64 (h0.ag 2), .int .i64 (h0.ag 3), .int .i64 (h0.ag 4), .int .i64 (h0.ag 5), .int .i64 (h0.ag 6), .int .i64 (h0.ag 7), .int .i64 h0.port, .int .i64 h0.age, .int .i64 h0.hold, .int .i64 h0.pos, .int .i64 (h1.ag 0), .int .i64 (h1.ag 1), .int .i64 (h1.ag 2), .int .i64 (h1.ag 3), .int .i64 (h1.ag 4), .int .i64 (h1.ag 5), .int .i64 (h1.ag 6), .int .i64 (h1.ag 7), .int .i64 h1.port, .int .i64 h1.age, .int .i64 h1.hold, .int .i64 h1.pos] 36) = w2 at *
 have c0 := q0.at_ 0 (.int .i64 n) rfl
 have c1 := q0.at_ 1 (.int .i64 tk) rfl
 have c5 := q0.at_ 5 (.slice na n nc) rfl
 have Q0 := Lib.hid q0.drew
 have QB := Lib.hid qb.drew
 clear q0 qb
 refine wp_region_held_drew (S := (fun w' => w'.cell? ⟨w.heap.size, 0, none⟩ = some (.int .i64 n) ∧ w'.cell? ⟨w.heap.size, 1, none⟩ = some (.int .i64 tk) ∧ w'.cell? ⟨w.heap.size, 5, none⟩ = some (.slice na n nc))) (by kernel_rfl) ?_ (fun hHeld => ?_)
 ·go_keep
 refine Rgn.tk 0 rfl ?_
 try simp only [Act.put, Rgn.a, Rgn.b, Rgn.c]
 refine Rgn.tk 1 rfl ?_
 try simp only [Act.put, Rgn.a, Rgn.b, Rgn.c]
 refine Rgn.one 2 rfl (by kernel_rfl) (fun K hK => ?_)
 go_simp
 refine (KR.out _).mono ?_
 rintro e wn ⟨rfl, rfl⟩
 go_simp
 refine hK.out _ _ ?_ (fun hHeld => ?_)
 ·go_keep
 clear hK K
 try simp only [Act.put, Rgn.a, Rgn.b, Rgn.c]
 refine Rgn.tk 3 rfl ?_
 try simp only [Act.put, Rgn.a, Rgn.b, Rgn.c]
 refine Rgn.tk 4 rfl ?_
 try simp only [Act.put, Rgn.a, Rgn.b, Rgn.c]
 refine Rgn.tk 5 rfl ?_
 try simp only [Act.put, Rgn.a, Rgn.b, Rgn.c]
 refine Rgn.tk 6 rfl ?_
 try simp only [Act.put, Rgn.a, Rgn.b, Rgn.c]
 refine Rgn.tk 8 rfl ?_
 try simp only [Act.put, Rgn.a, Rgn.b, Rgn.c]
 refine Rgn.tk 9 rfl ?_
 try simp only [Act.put, Rgn.a, Rgn.b, Rgn.c]
 refine Rgn.one 7 rfl (by kernel_rfl) (fun K hK => ?_)
 go_simp
 refine (KC.out _).mono ?_
 rintro e wn ⟨rfl, rfl⟩
 go_simp
 refine hK.out _ _ ?_ (fun hHeld => ?_)
 ·go_keep
 clear hK K
 try simp only [Act.put, Rgn.a, Rgn.b, Rgn.c]
 refine Rgn.tk 10 rfl ?_
 try simp only [Act.put, Rgn.a, Rgn.b, Rgn.c]
 refine Rgn.tk 11 rfl ?_
 try simp only [Act.put, Rgn.a, Rgn.b, Rgn.c]
 refine Rgn.tk 12 rfl ?_
 try simp only [Act.put, Rgn.a, Rgn.b, Rgn.c]
 refine Rgn.tk 13 rfl ?_
 try simp only [Act.put, Rgn.a, Rgn.b, Rgn.c]
 refine Rgn.tk 14 rfl ?_
 try simp only [Act.put, Rgn.a, Rgn.b, Rgn.c]
 refine Rgn.tk 15 rfl ?_
 try simp only [Act.put, Rgn.a, Rgn.b, Rgn.c]
 refine Rgn.tk 16 rfl ?_
 try simp only [Act.put, Rgn.a, Rgn.b, Rgn.c]
 refine Rgn.tk 17 rfl ?_
 try simp only [Act.put, Rgn.a, Rgn.b, Rgn.c]
 refine Rgn.tk 18 rfl ?_
 try simp only [Act.put, Rgn.a, Rgn.b, Rgn.c]
 refine Rgn.tk 19 rfl ?_
 try simp only [Act.put, Rgn.a, Rgn.b, Rgn.c]
 refine wpAnyH_done (by kernel_rfl) ?_ _
 clear c0 c1 c5
 generalize w2.drew = w3 at *
 have c0 := Q0.out.at_ 0 (.int .i64 n) rfl
 have c5 := Q0.out.at_ 5 (.slice na n nc) rfl
 go_wp2_with fail
 clear c0 c5
 go_loopw [3, 4, 28] (fun _ _ vi wr => ∃ k : Nat, k ≤ n ∧ vi = .int .i64 k ∧ Hid (Kit.Row wr w.heap.size [.int .i64 n, .int .i64 tk, .int .i64 c, .int .i64 v, .slice pa n pc, .slice na n nc, .int .i64 (h0.ag 0), .int .i64 (h0.ag 1), .int .i64 (h0.ag 2), .int .i64 (h0.ag 3), .int .i64 (h0.ag 4), .int .i64 (h0.ag 5), .int .i64 (h0.ag 6), .int .i64 (h0.ag 7), .int .i64 h0.port, .int .i64 h0.age, .int .i64 h0.hold, .int .i64 h0.pos, .int .i64 (h1.ag 0), .int .i64 (h1.ag 1), .int .i64 (h1.ag 2), .int .i64 (h1.ag 3), .int .i64 (h1.ag 4), .int .i64 (h1.ag 5), .int .i64 (h1.ag 6), .int .i64 (h1.ag 7), .int .i64 h1.port, .int .i64 h1.age, .int .i64 h1.hold, .int .i64 h1.pos]) ∧ Hid (Below w.heap.size w wr)) (fun _ _ vi _ => n - (intOf vi).toNat)
 case atStart => exact ⟨0, by omega, rfl, Q0, QB⟩
 case round =>
  clear Q0 QB
  obtain ⟨k, hk, rfl, R0, HB⟩ := hrel
  by_cases hlt : k < n
  ·obtain ⟨b, off, rfl, hb, m0, m1, m2, m3⟩ := TN.out.at_ hlt
   replace m0 := (HB.out.cell (p := ⟨b, off + k * 4, none⟩) hb).trans m0
   replace m1 := (HB.out.cell (p := ⟨b, off + k * 4 + 1, none⟩) hb).trans m1
   replace m2 := (HB.out.cell (p := ⟨b, off + k * 4 + 2, none⟩) hb).trans m2
   replace m3 := (HB.out.cell (p := ⟨b, off + k * 4 + 3, none⟩) hb).trans m3
   have KN1 := Lib.hid (KN.out k hlt)
   have hi := HID.out k hlt
   have c0 := R0.out.at_ 0 (.int .i64 n) rfl
   have lb := R0.out.lt
   generalize ndAt nodes k = y at *
   obtain ⟨yi, ym, yc, yp⟩ := y
   simp only at m0 m1 m2 m3 hi
   have gi : (yi != (k : Int)) = false := by rw [hi]; simp
   clear hi
   go_wp2_with fail
   refine (KN1.out _).mono ?_
   rintro e w8 ⟨rfl, b8⟩
   have r0 := Lib.hid ((R0.out.alloc _).below b8)
   have hb8 := Lib.hid ((HB.out.alloc HB.out.size _).trans (b8.mono (by have := HB.out.size; simp; omega)))
   clear b8 m0 m1 m2 m3 c0
   go_wp2_with fail
   go_roundw
   case rel => exact ⟨k + 1, by omega, by go_num, r0, hb8⟩
   case measure => simp [intOf]; omega
  ·obtain rfl : k = n := by omega
   have r0 := R0.out
   have c0 := r0.at_ 0 (.int .i64 k) rfl
   have c1 := r0.at_ 1 (.int .i64 tk) rfl
   have c2 := r0.at_ 2 (.int .i64 c) rfl
   have c3 := r0.at_ 3 (.int .i64 v) rfl
   have c4 := r0.at_ 4 (.slice pa k pc) rfl
   have c5 := r0.at_ 5 (.slice na k nc) rfl
   have c6 := r0.at_ 6 (.int .i64 (h0.ag 0)) rfl
   have c7 := r0.at_ 7 (.int .i64 (h0.ag 1)) rfl
   have c8 := r0.at_ 8 (.int .i64 (h0.ag 2)) rfl
   have c9 := r0.at_ 9 (.int .i64 (h0.ag 3)) rfl
   have c10 := r0.at_ 10 (.int .i64 (h0.ag 4)) rfl
   have c11 := r0.at_ 11 (.int .i64 (h0.ag 5)) rfl
   have c12 := r0.at_ 12 (.int .i64 (h0.ag 6)) rfl
   have c13 := r0.at_ 13 (.int .i64 (h0.ag 7)) rfl
   have c14 := r0.at_ 14 (.int .i64 h0.port) rfl
   have c15 := r0.at_ 15 (.int .i64 h0.age) rfl
   have c16 := r0.at_ 16 (.int .i64 h0.hold) rfl
   have c17 := r0.at_ 17 (.int .i64 h0.pos) rfl
   have c18 := r0.at_ 18 (.int .i64 (h1.ag 0)) rfl
   have c19 := r0.at_ 19 (.int .i64 (h1.ag 1)) rfl
   have c20 := r0.at_ 20 (.int .i64 (h1.ag 2)) rfl
   have c21 := r0.at_ 21 (.int .i64 (h1.ag 3)) rfl
   have c22 := r0.at_ 22 (.int .i64 (h1.ag 4)) rfl
   have c23 := r0.at_ 23 (.int .i64 (h1.ag 5)) rfl
   have c24 := r0.at_ 24 (.int .i64 (h1.ag 6)) rfl
   have c25 := r0.at_ 25 (.int .i64 (h1.ag 7)) rfl
   have c26 := r0.at_ 26 (.int .i64 h1.port) rfl
   have c27 := r0.at_ 27 (.int .i64 h1.age) rfl
   have c28 := r0.at_ 28 (.int .i64 h1.hold) rfl
   have c29 := r0.at_ 29 (.int .i64 h1.pos) rfl
   clear r0
   go_wp2_with fail
   refine (KF.out _).mono ?_
   rintro e w4 ⟨rfl, b⟩
   have r0 := R0.out.below b
   have HB4 := Lib.hid (HB.out.trans (b.mono HB.out.size))
   have R4 := Lib.hid r0
   clear b c0 c1 c2 c3 c4 c5 c6 c7 c8 c9 c10 c11 c12 c13 c14 c15 c16 c17 c18 c19 c20 c21 c22 c23 c24 c25 c26 c27 c28 c29
   have c0 := r0.at_ 0 (.int .i64 k) rfl
   have c1 := r0.at_ 1 (.int .i64 tk) rfl
   have c2 := r0.at_ 2 (.int .i64 c) rfl
   have c3 := r0.at_ 3 (.int .i64 v) rfl
   have c4 := r0.at_ 4 (.slice pa k pc) rfl
   have c5 := r0.at_ 5 (.slice na k nc) rfl
   have c6 := r0.at_ 6 (.int .i64 (h0.ag 0)) rfl
   have c7 := r0.at_ 7 (.int .i64 (h0.ag 1)) rfl
   have c8 := r0.at_ 8 (.int .i64 (h0.ag 2)) rfl
   have c9 := r0.at_ 9 (.int .i64 (h0.ag 3)) rfl
   have c10 := r0.at_ 10 (.int .i64 (h0.ag 4)) rfl
   have c11 := r0.at_ 11 (.int .i64 (h0.ag 5)) rfl
   have c12 := r0.at_ 12 (.int .i64 (h0.ag 6)) rfl
   have c13 := r0.at_ 13 (.int .i64 (h0.ag 7)) rfl
   have c14 := r0.at_ 14 (.int .i64 h0.port) rfl
   have c15 := r0.at_ 15 (.int .i64 h0.age) rfl
   have c16 := r0.at_ 16 (.int .i64 h0.hold) rfl
   have c17 := r0.at_ 17 (.int .i64 h0.pos) rfl
   have c18 := r0.at_ 18 (.int .i64 (h1.ag 0)) rfl
   have c19 := r0.at_ 19 (.int .i64 (h1.ag 1)) rfl
   have c20 := r0.at_ 20 (.int .i64 (h1.ag 2)) rfl
   have c21 := r0.at_ 21 (.int .i64 (h1.ag 3)) rfl
   have c22 := r0.at_ 22 (.int .i64 (h1.ag 4)) rfl
   have c23 := r0.at_ 23 (.int .i64 (h1.ag 5)) rfl
   have c24 := r0.at_ 24 (.int .i64 (h1.ag 6)) rfl
   have c25 := r0.at_ 25 (.int .i64 (h1.ag 7)) rfl
   have c26 := r0.at_ 26 (.int .i64 h1.port) rfl
   have c27 := r0.at_ 27 (.int .i64 h1.age) rfl
   have c28 := r0.at_ 28 (.int .i64 h1.hold) rfl
   have c29 := r0.at_ 29 (.int .i64 h1.pos) rfl
   clear r0
   go_wp2_with fail
   refine (KP.out _ HB4.out).mono ?_
   rintro e w4' ⟨rfl, rfl⟩
   go_wp2_with fail
   refine (K0.out _).mono ?_
   rintro e w5 ⟨rfl, b⟩
   have r0 := R4.out.below b
   have HB5 := Lib.hid (HB4.out.trans (b.mono HB4.out.size))
   clear b c0 c1 c2 c3 c4 c5 c6 c7 c8 c9 c10 c11 c12 c13 c14 c15 c16 c17 c18 c19 c20 c21 c22 c23 c24 c25 c26 c27 c28 c29
   have c0 := r0.at_ 0 (.int .i64 k) rfl
   have c1 := r0.at_ 1 (.int .i64 tk) rfl
   have c2 := r0.at_ 2 (.int .i64 c) rfl
   have c3 := r0.at_ 3 (.int .i64 v) rfl
   have c4 := r0.at_ 4 (.slice pa k pc) rfl
   have c5 := r0.at_ 5 (.slice na k nc) rfl
   have c6 := r0.at_ 6 (.int .i64 (h0.ag 0)) rfl
   have c7 := r0.at_ 7 (.int .i64 (h0.ag 1)) rfl
   have c8 := r0.at_ 8 (.int .i64 (h0.ag 2)) rfl
   have c9 := r0.at_ 9 (.int .i64 (h0.ag 3)) rfl
   have c10 := r0.at_ 10 (.int .i64 (h0.ag 4)) rfl
   have c11 := r0.at_ 11 (.int .i64 (h0.ag 5)) rfl
   have c12 := r0.at_ 12 (.int .i64 (h0.ag 6)) rfl
   have c13 := r0.at_ 13 (.int .i64 (h0.ag 7)) rfl
   have c14 := r0.at_ 14 (.int .i64 h0.port) rfl
   have c15 := r0.at_ 15 (.int .i64 h0.age) rfl
   have c16 := r0.at_ 16 (.int .i64 h0.hold) rfl
   have c17 := r0.at_ 17 (.int .i64 h0.pos) rfl
   have c18 := r0.at_ 18 (.int .i64 (h1.ag 0)) rfl
   have c19 := r0.at_ 19 (.int .i64 (h1.ag 1)) rfl
   have c20 := r0.at_ 20 (.int .i64 (h1.ag 2)) rfl
   have c21 := r0.at_ 21 (.int .i64 (h1.ag 3)) rfl
   have c22 := r0.at_ 22 (.int .i64 (h1.ag 4)) rfl
   have c23 := r0.at_ 23 (.int .i64 (h1.ag 5)) rfl
   have c24 := r0.at_ 24 (.int .i64 (h1.ag 6)) rfl
   have c25 := r0.at_ 25 (.int .i64 (h1.ag 7)) rfl
   have c26 := r0.at_ 26 (.int .i64 h1.port) rfl
   have c27 := r0.at_ 27 (.int .i64 h1.age) rfl
   have c28 := r0.at_ 28 (.int .i64 h1.hold) rfl
   have c29 := r0.at_ 29 (.int .i64 h1.pos) rfl
   clear r0
   go_wp2_with fail
   refine (K1.out _).mono ?_
   rintro e w6 ⟨rfl, b⟩
   have HB6 := Lib.hid (HB5.out.trans (b.mono HB5.out.size))
   clear b c0 c1 c2 c3 c4 c5 c6 c7 c8 c9 c10 c11 c12 c13 c14 c15 c16 c17 c18 c19 c20 c21 c22 c23 c24 c25 c26 c27 c28 c29
   go_wp2_with fail
   go_ret
   exact ⟨rfl, HB6.out⟩
end Wr
end Go.Proofs.YtgiojagdmglinaaGreatDoor
namespace Go.Proofs.YtgiojagdmglinaaGreatDoor
open Go.RowKit
theorem Crc.nine : Crc.sum [49, 50, 51, 52, 53, 54, 55, 56, 57] = 3421780262 := by decide +kernel
theorem Crc.nine_four : (Crc.four 3421780262).size = 4 ∧ Crc.val (Crc.four 3421780262).data.toList = 3421780262 := by decide +kernel
end Go.Proofs.YtgiojagdmglinaaGreatDoor
namespace Go.Proofs.YtgiojagdmglinaaGreatDoor
open Go.RowKit
structure Wire.Ans (W : World) (B : Nat) : Prop where
 p0 : W.cell? ⟨B, 0, none⟩ = some (.int .i64 0)
 p1 : W.cell? ⟨B, 1, none⟩ = some (.int .i64 0)
 p2 : W.frozen? ⟨B, 0, none⟩ = false
 p3 : W.frozen? ⟨B, 1, none⟩ = false
theorem Wire.Ans.below {W W' : World} {B : Nat} (h : Wire.Ans W B) (hb : Below W.heap.size W W') : Wire.Ans W' B where
 p0 := Kit.cell_below hb h.p0
 p1 := Kit.cell_below hb h.p1
 p2 := (hb.frozen (p := ⟨B, 0, none⟩) (World.block_lt_of_cell? W ⟨B, 0, none⟩ h.p0)).trans h.p2
 p3 := (hb.frozen (p := ⟨B, 1, none⟩) (World.block_lt_of_cell? W ⟨B, 1, none⟩ h.p1)).trans h.p3
end Go.Proofs.YtgiojagdmglinaaGreatDoor
namespace Go.Proofs.YtgiojagdmglinaaGreatDoor
open Go.RowKit
set_option maxHeartbeats 400000 in
theorem Port.conf_calls (n : Int) (w : World) :
  Calls Tryz.prog 14 #[.int .i64 n] w fun e w' => e = .returned (.bool (decide (3 ≤ n) && decide (n ≤ 8))) ∧ w = w' := by
 by_cases h : 3 ≤ n
 ·have h' : decide (3 ≤ n) = true := decide_eq_true h
  rw [h']
  clear h'
  go_enter Tryz.func14, Tryz.ntmps14
  go_wp2_with fail
  go_ret
  exact ⟨rfl, rfl⟩
 ·have h' : decide (3 ≤ n) = false := decide_eq_false h
  have h2 : n < 3 := by omega
  rw [h']
  clear h'
  go_enter Tryz.func14, Tryz.ntmps14
  go_wp2_with fail
  go_ret
  exact ⟨rfl, rfl⟩
set_option maxHeartbeats 400000 in
theorem Port.rconf_calls (n : Int) (w : World) :
  Calls Tryz.prog 39 #[.int .i64 n] w fun e w' => e = .returned (.bool (decide (3 ≤ n) && decide (n ≤ 8))) ∧ w = w' := by
 by_cases h : 3 ≤ n
 ·have h' : decide (3 ≤ n) = true := decide_eq_true h
  rw [h']
  clear h'
  go_enter Tryz.func39, Tryz.ntmps39
  go_wp2_with fail
  go_ret
  exact ⟨rfl, rfl⟩
 ·have h' : decide (3 ≤ n) = false := decide_eq_false h
  have h2 : n < 3 := by omega
  rw [h']
  clear h'
  go_enter Tryz.func39, Tryz.ntmps39
  go_wp2_with fail
  go_ret
  exact ⟨rfl, rfl⟩
theorem Port.fr_eq (x y : Fr) : (x = y) ↔ x.k = y.k ∧ x.i = y.i := by
 obtain ⟨a, b⟩ := x
 obtain ⟨c, d⟩ := y
 simp
end Go.Proofs.YtgiojagdmglinaaGreatDoor
namespace Go.Proofs.YtgiojagdmglinaaGreatDoor
open Go.RowKit
def Hear.one (n : Int) (s : ByteArray) : Fr := if (Wire.get s).right = true ∧ (Wire.get s).i < n then Wire.get s else Fr.none
end Go.Proofs.YtgiojagdmglinaaGreatDoor
