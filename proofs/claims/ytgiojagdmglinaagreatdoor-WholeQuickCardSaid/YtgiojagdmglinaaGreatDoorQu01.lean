/-
  WholeQuick holds: without a fault, all powered at once, all are there behind the tick that the statement names.
  Conditions: none but those which the given statement itself asks (its tied card); the lemmas stand in the texts ahead of this one.
-/
import Derived.Test.YtgiojagdmglinaaGreatDoorQu00
import Derived.Test.YtgiojagdmglinaaGreatDoorRows
import Derived.Test.YtgiojagdmglinaaGreatDoorCards
import Derived.Test.YtgiojagdmglinaaGreatDoorTie
import Derived.Test.YtgiojagdmglinaaGreatDoorGb34
import Derived.ProofKit
import Derived.OpenShut
import Derived.LaidMore
import Derived.Stop.Joined
import Derived.SevenTiedAt
import Derived.ShutString
set_option linter.unusedVariables false
set_option linter.unusedSimpArgs false
set_option maxRecDepth 100000
namespace Go.Proofs.YtgiojagdmglinaaGreatDoor.WholeQuick
open Go Go.RowKit Qk
theorem there1 (n T t p G : Nat) (h3 : 3 ≤ n) (h8 : n ≤ 8) {ads : List (Nat × Nat)} (hl : ads.length = t) (h6 : 6 * n + 6 ≤ t) (h9 : t ≤ 309) (A : Option Addr) (cap : Nat) (w : World) (hk : Looks w A t (Sw.lks (Sw.start n (z n T t) p G) (z n T t).ticks ads)) :
  Calls Tryz.prog 23 #[.int .i64 (n : Int), .agg #[.int .i64 0, .int .i64 0], .slice A t cap] w fun e w' => e = .returned (.tuple #[.int .i64 (6 * (n : Int) + 5), .bool true]) ∧ Below w.heap.size w w' := by
 refine (Sy.therel_calls n 0 0 A t cap _ w hk (may_ n T t p G h3 h8 hl h9) (len_n n T t p G h8)).mono ?_
 rintro e w' ⟨a, hat, rfl, hb⟩
 obtain rfl := hat.unique (is_at n T t p G h3 h8 hl h6 h9)
 refine ⟨?_, hb⟩
 unfold Sy.thereV
 rw [Sw.lks_len, hl, if_neg (by omega), decide_eq_true (by omega)]
 rw [show (((6 * n + 5 : Nat)) : Int) = 6 * (n : Int) + 5 by omega]
set_option maxHeartbeats 4000000 in
theorem walk1 (a b : Nat) (ha : a < 256) (hb : b < 256) (w : World) :
  Calls Tryz.prog 8 #[.int .u8 (a : Int), .int .u8 (b : Int)] w fun e w' => e = .returned (.bool true) ∧ Below w.heap.size w w' := by
 go_enter Tryz.func8, Tryz.ntmps8
 go_upto_region 2 with fail
 obtain ⟨n, hn⟩ : ∃ n : Nat, 3 + (a : Int) % 6 = (n : Int) := ⟨3 + a % 6, by omega⟩
 have h3 : 3 ≤ n := by omega
 have h8 : n ≤ 8 := by omega
 rw [hn]
 clear hn
 generalize (a : Int) % 6 = a6
 obtain ⟨t, hT⟩ : ∃ t : Nat, 6 * (n : Int) + 6 + (b : Int) = (t : Int) := ⟨6 * n + 6 + b, by omega⟩
 have h6 : 6 * n + 6 ≤ t := by omega
 have h9 : t ≤ 309 := by omega
 have hmk := fun W => mk_ticks t (by omega) W
 iterate 25 (first | go_guarded | go_step | go_upon | go_back)
 have RT := Kit.Row.newAt w (madeCells #[.string ⟨#[]⟩, .string ⟨#[]⟩, .slice none 0 0, .int .i64 0] (t * 4)) 53 w.heap.size rfl
 have hch := chs_row RT
 have HB := Lib.hid ((Below.refl w.heap.size w).alloc (Nat.le_refl _) (.cells (madeCells #[.string ⟨#[]⟩, .string ⟨#[]⟩, .slice none 0 0, .int .i64 0] (t * 4)) 53))
 generalize w.alloc (.cells (madeCells #[.string ⟨#[]⟩, .string ⟨#[]⟩, .slice none 0 0, .int .i64 0] (t * 4)) 53) = w1 at *
 have HCH := Lib.hid hch
 clear hmk RT hch hT ha hb
 iterate 6 (first | go_guarded | go_step | go_upon | go_back)
 refine Kit.wpList_store_row rfl 32 (.tmp 6) (.tmp 27) rfl w1.heap.size 0 #[.int .i64 (n : Int), .slice none 0 0, .int .i64 0, .int .i64 0, .bool false, .slice none 0 0, .int .i64 0, .int .i64 0, .int .i64 0, .int .i64 0, .int .i64 0, .int .i64 0, .int .i64 0, .int .i64 0, .int .i64 0, .int .i64 0, .int .i64 0, .int .i64 0, .int .i64 0, .int .i64 0, .int .i64 0, .int .i64 0, .int .i64 0, .int .i64 0, .int .i64 0, .int .i64 0, .int .i64 0, .int .i64 0, .int .i64 0, .int .i64 0, .slice (some ⟨w.heap.size, 0, none⟩) t t] rfl rfl (Kit.Row.newAt w1 #[.int .i64 0, .slice none 0 0, .int .i64 0, .int .i64 0, .bool false, .slice none 0 0, .int .i64 0, .int .i64 0, .int .i64 0, .int .i64 0, .int .i64 0, .int .i64 0, .int .i64 0, .int .i64 0, .int .i64 0, .int .i64 0, .int .i64 0, .int .i64 0, .int .i64 0, .int .i64 0, .int .i64 0, .int .i64 0, .int .i64 0, .int .i64 0, .int .i64 0, .int .i64 0, .int .i64 0, .int .i64 0, .int .i64 0, .int .i64 0, .slice none 0 0] 32 _ rfl) (by simp) Nw.sizeScript (by first | rfl | (simp [Value.oneCell']; done) | decide) ?_
 intro w2 hW2
 have RS := Lib.hid (Kit.Row.all (Kit.Row.newAt w1 #[.int .i64 0, .slice none 0 0, .int .i64 0, .int .i64 0, .bool false, .slice none 0 0, .int .i64 0, .int .i64 0, .int .i64 0, .int .i64 0, .int .i64 0, .int .i64 0, .int .i64 0, .int .i64 0, .int .i64 0, .int .i64 0, .int .i64 0, .int .i64 0, .int .i64 0, .int .i64 0, .int .i64 0, .int .i64 0, .int .i64 0, .int .i64 0, .int .i64 0, .int .i64 0, .int .i64 0, .int .i64 0, .int .i64 0, .int .i64 0, .slice none 0 0] 32 _ rfl) hW2 rfl)
 have bb2 := Kit.below_of ((Below.refl w1.heap.size w1).alloc (Nat.le_refl _) (.cells #[.int .i64 0, .slice none 0 0, .int .i64 0, .int .i64 0, .bool false, .slice none 0 0, .int .i64 0, .int .i64 0, .int .i64 0, .int .i64 0, .int .i64 0, .int .i64 0, .int .i64 0, .int .i64 0, .int .i64 0, .int .i64 0, .int .i64 0, .int .i64 0, .int .i64 0, .int .i64 0, .int .i64 0, .int .i64 0, .int .i64 0, .int .i64 0, .int .i64 0, .int .i64 0, .int .i64 0, .int .i64 0, .int .i64 0, .int .i64 0, .slice none 0 0] 32)) hW2 (Nat.le_refl _)
 have HC2 := Lib.hid (HCH.out.below bb2)
 have HB2 := Lib.hid (HB.out.trans (bb2.mono HB.out.size))
 clear hW2 bb2 HCH HB
 go_upto_region 3 with fail
 go_step
 refine Kit.wpList_load_row rfl 32 (.tmp 6) rfl w1.heap.size 0 rfl RS.out [.int .i64 (n : Int), .slice none 0 0, .int .i64 0, .int .i64 0, .bool false, .slice none 0 0, .int .i64 0, .int .i64 0, .int .i64 0, .int .i64 0, .int .i64 0, .int .i64 0, .int .i64 0, .int .i64 0, .int .i64 0, .int .i64 0, .int .i64 0, .int .i64 0, .int .i64 0, .int .i64 0, .int .i64 0, .int .i64 0, .int .i64 0, .int .i64 0, .int .i64 0, .int .i64 0, .int .i64 0, .int .i64 0, .int .i64 0, .int .i64 0, .slice (some ⟨w.heap.size, 0, none⟩) t t] rfl _ Tryz.underlying32 rfl Nw.sizeScript ?_
 go_wp2_with fail
 refine (Al.all_calls n (z n w.heap.size t) w2 h3 h8 rfl rfl ⟨rfl, fun h => absurd h (by show ¬ 0 < 0; omega)⟩ HC2.out (by show t ≤ 1000000; omega)).mono ?_
 rintro e w4 ⟨y, p, G, A, cap, ads, rfl, hlen, hy, hlk, hty, hb⟩
 change ads.length = t at hlen
 change Looks w4 A t (Sw.lks (Sw.start n (z n w.heap.size t) p G) (z n w.heap.size t).ticks ads) at hlk
 have HB4 := Lib.hid (HB2.out.trans (hb.mono HB2.out.size))
 have LK := Lib.hid hlk
 have HY := Lib.hid hy
 clear hb hlk hty hy RS HB2 HC2
 dsimp only
 iterate 19 (first | go_guarded | go_step | go_upon | go_back)
 refine Kit.wpList_store_row rfl 36 (.tmp 8) (.tmp 32) rfl w4.heap.size 0 #[.int .i64 y.n, .int .i64 y.tick, .int .i64 y.c, .int .i64 y.v, .slice y.pa y.n y.pc, .slice y.na y.n y.nc, .int .i64 (y.h0.ag 0), .int .i64 (y.h0.ag 1), .int .i64 (y.h0.ag 2), .int .i64 (y.h0.ag 3), .int .i64 (y.h0.ag 4), .int .i64 (y.h0.ag 5), .int .i64 (y.h0.ag 6), .int .i64 (y.h0.ag 7), .int .i64 y.h0.port, .int .i64 y.h0.age, .int .i64 y.h0.hold, .int .i64 y.h0.pos, .int .i64 (y.h1.ag 0), .int .i64 (y.h1.ag 1), .int .i64 (y.h1.ag 2), .int .i64 (y.h1.ag 3), .int .i64 (y.h1.ag 4), .int .i64 (y.h1.ag 5), .int .i64 (y.h1.ag 6), .int .i64 (y.h1.ag 7), .int .i64 y.h1.port, .int .i64 y.h1.age, .int .i64 y.h1.hold, .int .i64 y.h1.pos] rfl rfl (Kit.Row.newAt w4 _ _ _ rfl) (by simp) Sw.sizeWorld (by first | rfl | (simp [Value.oneCell']; done) | decide) ?_
 intro w5 hW5
 have RY := Lib.hid (Kit.Row.all (Kit.Row.newAt w4 #[.int .i64 0, .int .i64 0, .int .i64 0, .int .i64 0, .slice none 0 0, .slice none 0 0, .int .i64 0, .int .i64 0, .int .i64 0, .int .i64 0, .int .i64 0, .int .i64 0, .int .i64 0, .int .i64 0, .int .i64 0, .int .i64 0, .int .i64 0, .int .i64 0, .int .i64 0, .int .i64 0, .int .i64 0, .int .i64 0, .int .i64 0, .int .i64 0, .int .i64 0, .int .i64 0, .int .i64 0, .int .i64 0, .int .i64 0, .int .i64 0] 36 _ rfl) hW5 rfl)
 have bb5 := Kit.below_of ((Below.refl w4.heap.size w4).alloc (Nat.le_refl _) (.cells #[.int .i64 0, .int .i64 0, .int .i64 0, .int .i64 0, .slice none 0 0, .slice none 0 0, .int .i64 0, .int .i64 0, .int .i64 0, .int .i64 0, .int .i64 0, .int .i64 0, .int .i64 0, .int .i64 0, .int .i64 0, .int .i64 0, .int .i64 0, .int .i64 0, .int .i64 0, .int .i64 0, .int .i64 0, .int .i64 0, .int .i64 0, .int .i64 0, .int .i64 0, .int .i64 0, .int .i64 0, .int .i64 0, .int .i64 0, .int .i64 0] 36)) hW5 (Nat.le_refl _)
 have L5 := Lib.hid (LK.out.below bb5)
 have HB5 := Lib.hid (HB4.out.trans (bb5.mono HB4.out.size))
 clear hW5 bb5 LK HB4
 generalize w4.heap.size = Y at *
 have c2 := RY.out.at_ 2 (.int .i64 y.c) rfl
 have c3 := RY.out.at_ 3 (.int .i64 y.v) rfl
 rw [HY.out.2.1, zc] at c2
 rw [HY.out.2.2.1, zv] at c3
 go_wp2_with fail
 refine (there1 n w.heap.size t p G h3 h8 hlen h6 h9 A cap w5 L5.out).mono ?_
 rintro e w6 ⟨rfl, b6⟩
 have L6 := Lib.hid (L5.out.below b6)
 have HB6 := Lib.hid (HB5.out.trans (b6.mono HB5.out.size))
 have HCS := Lib.hid (cs_at n w.heap.size t p G h3 h8)
 clear b6 L5 HB5 RY HY c2 c3
 go_wp2_with fail
 go_loopw [12, 13, 14] (fun vf vg vt wr => ∃ f g k : Nat, k ≤ t ∧ vt = .int .i64 k ∧ vf = .int .i64 f ∧ vg = .int .i64 g ∧ Hid ((4 * n + 2 < k → k ≤ 6 * n + 4 → g = 4 * n + 2) ∧ (6 * n + 4 < k → f = 4 * n + 2 ∧ g = 6 * n + 4)) ∧ Hid (Below w6.heap.size w6 wr)) (fun _ _ vt _ => t - (intOf vt).toNat)
 case atStart => exact ⟨0, 0, 0, by omega, rfl, rfl, rfl, Lib.hid ⟨fun h _ => absurd h (by omega), fun h => absurd h (by omega)⟩, Lib.hid (Below.refl _ _)⟩
 case round =>
  obtain ⟨f, g, k, hk, rfl, rfl, rfl, HF, HB⟩ := hrel
  by_cases hlt : k < t
  ·have gk : decide ((k : Int) < (t : Int)) = true := decide_eq_true (by omega)
   obtain ⟨bA, oA, p1, rfl, hbA, _, m1, m2, _, _, _, _⟩ := Sw.lk_at (L6.out.below HB.out) hlen hlt
   have hcs := HCS.out k (by omega)
   generalize (Sw.r0 (Sw.wat (Sw.start n (z n w.heap.size t) p G) (z n w.heap.size t).ticks k) ((z n w.heap.size t).ticks.getD k default)).2 = fr at *
   have hcase : (fr.k = 1 ∧ fr.i = 0 ∧ isCs fr = true) ∨ ((fr.k == 1) = false ∧ isCs fr = false) ∨ (fr.k = 1 ∧ (fr.i == 0) = false ∧ isCs fr = false) := by
    unfold isCs
    by_cases h1 : fr.k = 1
    ·by_cases h2 : fr.i = 0
     ·left; exact ⟨h1, h2, by rw [h1, h2]; rfl⟩
     ·right; right; exact ⟨h1, by simp [h2], by simp [h2]⟩
    ·right; left; exact ⟨by simp [h1], by simp [h1]⟩
   rcases hcase with ⟨e1, e2, e3⟩ | ⟨e1, e3⟩ | ⟨e1, e2, e3⟩
   ·rw [e1] at m1
    rw [e2] at m2
    rw [e3] at hcs
    have HN : Hid ((4 * n + 2 < k + 1 → k + 1 ≤ 6 * n + 4 → k = 4 * n + 2) ∧ (6 * n + 4 < k + 1 → g = 4 * n + 2 ∧ k = 6 * n + 4)) := Lib.hid (by
     have h := HF.out
     by_cases h4 : 4 * n + 2 ≤ k
     ·have h5 := hcs h4
      simp only [Bool.true_eq, Bool.or_eq_true, decide_eq_true_eq] at h5
      omega
     ·omega)
    clear hcs e1 e2 e3 HF
    go_wp2_with fail
    go_roundw
    case rel => exact ⟨g, k, k + 1, by omega, by go_num, rfl, rfl, HN, HB⟩
    case measure => simp [intOf]; omega
   all_goals
    rw [e3] at hcs
    have HN : Hid ((4 * n + 2 < k + 1 → k + 1 ≤ 6 * n + 4 → g = 4 * n + 2) ∧ (6 * n + 4 < k + 1 → f = 4 * n + 2 ∧ g = 6 * n + 4)) := Lib.hid (by
     have h := HF.out
     by_cases h4 : 4 * n + 2 ≤ k
     ·have h5 := hcs h4
      simp only [Bool.false_eq, Bool.or_eq_false_iff, decide_eq_false_iff_not] at h5
      omega
     ·omega)
    clear hcs e3 HF
   ·go_wp2_with fail
    go_roundw
    case rel => exact ⟨f, g, k + 1, by omega, by go_num, rfl, rfl, HN, HB⟩
    case measure => simp [intOf]; omega
   ·rw [e1] at m1
    clear e1
    go_wp2_with fail
    go_roundw
    case rel => exact ⟨f, g, k + 1, by omega, by go_num, rfl, rfl, HN, HB⟩
    case measure => simp [intOf]; omega
  ·have gk : decide ((k : Int) < (t : Int)) = false := decide_eq_false (by omega)
   have hf := HF.out.2 (by omega)
   have e1 : (f : Int) = 4 * (n : Int) + 2 := by omega
   have e2 : (g : Int) = 6 * (n : Int) + 4 := by omega
   rw [e1, e2]
   clear e1 e2 hf HF
   go_wp2_with fail
   refine (Aw.awake_calls _).mono ?_
   rintro e wz ⟨rfl, bz⟩
   have HBZ := Lib.hid (HB6.out.trans ((HB.out.trans (bz.mono HB.out.size)).mono HB6.out.size))
   clear bz
   go_wp2_with fail
   go_ret
   exact ⟨rfl, HBZ.out⟩
theorem walk (a0 a1 : Int) {w : World} (w0 : (Lit.int .u8 a0).wf = true) (w1 : (Lit.int .u8 a1).wf = true) (w' : World) (hw : w' = w := by rfl) :
  Calls Tryz.prog 8 #[.int .u8 a0, .int .u8 a1] w' fun e w2 => e = .returned (.bool true) ∧ Below w'.heap.size w' w2 := by
 subst hw
 have h0 : IntKind.u8.min ≤ a0 ∧ a0 ≤ IntKind.u8.max := by simpa [Lit.wf] using w0
 have h1 : IntKind.u8.min ≤ a1 ∧ a1 ≤ IntKind.u8.max := by simpa [Lit.wf] using w1
 have hm : IntKind.u8.min = 0 := rfl
 have hM : IntKind.u8.max = 255 := rfl
 obtain ⟨a, rfl⟩ : ∃ a : Nat, a0 = (a : Int) := ⟨a0.toNat, by omega⟩
 obtain ⟨b, rfl⟩ : ∃ b : Nat, a1 = (b : Int) := ⟨a1.toNat, by omega⟩
 exact walk1 a b (by omega) (by omega) _
end Go.Proofs.YtgiojagdmglinaaGreatDoor.WholeQuick
namespace Go.Proofs.YtgiojagdmglinaaGreatDoor.WholeQuick
open Go.ChangeShapes Go.WideShapes Go.ChangeAt Go.RowKit
open Go.ChangeMaps (open_string shut_string)
set_option maxHeartbeats 400000 in
theorem lifted (os : Os) (started : os.Started) (H : Type) (enc : TypeId × Value → H) :
  ReturnsInHanded {} Tryz.checked os 8 .any (fun w args => (Rows.wholeQuickSpec.pre enc Tryz.prog Tryz.f8 [] false w args ∧ laidMetH Tryz.prog Dor.laid3 w) ∧ sizedMet enc Tryz.prog Tryz.f8 (OpenSpec.ofChange Rows.wholeQuickSpec) false w args) (Rows.wholeQuickSpec.post enc Tryz.prog Tryz.f8 false true false false) := by
 refine returnsInHanded_of_change_and (C := Tryz.checked) (X := fun w _ => laidMetH Tryz.prog Dor.laid3 w) (fun _ _ _ hh h => h.of_heap hh) own started (by kernel_rfl) Tryz.func8
  (ChangeSpec.witness_shaped (enc := enc) (C := Tryz.checked) (os := os) (X := fun w _ => laidMetH Tryz.prog Dor.laid3 w) false (World.doorLaid Tryz.prog 24 os) #[.int .u8 0, .int .u8 0] 8 rfl (Dor.shaped os _) (by kernel_rfl) (by kernel_rfl) (by kernel_rfl) (Dor.met os _)) ?_
 intro W base args ds gs before hval0 hW _ _ _ _
 have hval : ∀ (j : Nat) t v, Tryz.f8.params[j]? = some t → args[j]? = some v → Value.okWide Tryz.prog W .any base t v := hval0
 have hW' := hW
 obtain ⟨p, q, hA0, hV, rfl, hfz, hnd⟩ := hW
 have hA : DataW.TrodAll enc Tryz.prog W 0 (fun _ => true) true Tryz.f8.params.toList args.toList ds p := hA0
 rw [Tryz.params8] at hA hval
 obtain ⟨v0, vs0, d0, ds0, p0, q0, hargs, rfl, rfl, h0, r0⟩ := trodAll_cons hA
 obtain ⟨v1, vs1, d1, ds1, p1, q1, rfl, rfl, rfl, h1, r1⟩ := trodAll_cons r0
 obtain ⟨rfl, rfl, rfl⟩ := trodAll_nil r1
 obtain rfl : args = #[v0, v1] := by cases args; simp_all
 obtain ⟨rfl, rfl⟩ := trodVars_none hV
 obtain ⟨a0, rfl, rfl, rfl, w0⟩ := open_int Tryz.underlying5 (hval 0 5 v0 rfl rfl) h0
 obtain ⟨a1, rfl, rfl, rfl, w1⟩ := open_int Tryz.underlying5 (hval 1 5 v1 rfl rfl) h1
 clear hA0 hval0
 refine (walk a0 a1 w0 w1 W).mono fun e W' ⟨he, bel⟩ => ?_
 subst he
 exact ⟨_, rfl, _, _, _, [], _, [], hW', trodAll_mk1 (shut_bool Tryz.underlying4 _), (trodAll_cons_mk (shut_int Tryz.underlying5 w0) (trodAll_cons_mk (shut_int Tryz.underlying5 w1) trodAll_mk0)), rfl, bel.frame _, fun h => by cases h⟩
theorem over : Rows.wholeQuickRow.holds Tryz.pinned (OpenSpec.ofChange Rows.wholeQuickSpec) :=
 OpenClaim.holds_of_wide 8 Tryz.f8 rfl rfl rfl rfl rfl rfl rfl ⟨rfl, rfl, rfl, rfl, rfl⟩ rfl rfl rfl rfl rfl named Tryz.func8 facts
  (of_decide_eq_true (by kernel_rfl)) (by unfold Func.isWrapper; first | (rw [if_pos (by decide +kernel)]; kernel_rfl) | (rw [if_neg (by decide +kernel)]; exact ⟨rfl, rfl⟩))
  (fun os started H enc _ => lifted os started H enc)
theorem proved : Rows.WholeQuickCardSaid :=
 Claim7.holds_tied_plain_at .later [] [.data, .data, .data] true (true, "bc756e22a1b164c7e6f02c199b2fccdb787ee550ccd8ea457d36e9ca7ed46377") false
  over (fun _ h => by cases h) (by kernel_rfl) (fun _ h => by cases h) wholeQuick_row_tie rfl ⟨rfl, rfl⟩ (by kernel_rfl) rfl
  (fun f fn hf hfn => by
   obtain rfl : f = 8 := Option.some.inj ((show Tryz.prog.funcNamed "daybreak/daybreaktop.WholeQuick" = some 8 by kernel_rfl).symm.trans hf) |>.symm
   obtain rfl : fn = Tryz.f8 := (Option.some.inj (Tryz.func8.symm.trans hfn)).symm
   exact ⟨by kernel_rfl, fun j t ht => by
    rw [Tryz.params8] at ht
    have hm : t ∈ [5, 5] := by simpa using Array.mem_of_getElem? ht
    have hall : ([5, 5].all fun u => !Tryz.prog.wantsStandIn u) = true := by kernel_rfl
    exact (show Tryz.prog.wantsStandIn t = false by simpa using List.all_eq_true.1 hall t hm)⟩)
  (by kernel_rfl)
#print axioms proved
end Go.Proofs.YtgiojagdmglinaaGreatDoor.WholeQuick
