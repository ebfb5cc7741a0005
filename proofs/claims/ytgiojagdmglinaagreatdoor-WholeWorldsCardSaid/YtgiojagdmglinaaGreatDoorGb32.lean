/-
  Part 32 of a merged text.
-/
import Derived.Test.YtgiojagdmglinaaGreatDoorGb31
import Derived.Laws.IdiomStrings
set_option linter.unusedVariables false
set_option linter.unusedSimpArgs false
set_option maxRecDepth 100000
namespace Go.Proofs.YtgiojagdmglinaaGreatDoor
open Go.RowKit
namespace Tl
def tx1 (k : Nat) : List UInt8 := [50, 51] ++ (List.replicate k [32, 105, 49]).flatten
theorem tx1_succ (k : Nat) : tx1 (k + 1) = (tx1 k ++ [32]) ++ [105, 49] := by
 unfold tx1
 rw [List.replicate_succ', List.flatten_append]
 simp
theorem tx1_len (k : Nat) : (tx1 k).length = 2 + 3 * k := by
 induction k with
 | zero => rfl
 | succ k ih => rw [tx1_succ, List.length_append, List.length_append, ih]; simp; omega
def tx2 (k : Nat) : List UInt8 := tx1 2 ++ (List.replicate k [32, 97, 50]).flatten
theorem tx2_succ (k : Nat) : tx2 (k + 1) = (tx2 k ++ [32]) ++ [97, 50] := by
 unfold tx2
 rw [List.replicate_succ', List.flatten_append]
 simp
theorem tx2_len (k : Nat) : (tx2 k).length = 8 + 3 * k := by
 induction k with
 | zero => rfl
 | succ k ih => rw [tx2_succ, List.length_append, List.length_append, ih]; simp; omega
theorem ix0 (w : World) : (Instr.index 46 (.agg #[.int .i64 2, .int .i64 1, .int .i64 2, .int .i64 1]) (.int .i64 0)).run Tryz.prog w = .ok (.agg #[.int .i64 2, .int .i64 1]) w := by kernel_rfl
theorem ix1 (w : World) : (Instr.index 46 (.agg #[.int .i64 2, .int .i64 1, .int .i64 2, .int .i64 1]) (.int .i64 1)).run Tryz.prog w = .ok (.agg #[.int .i64 2, .int .i64 1]) w := by kernel_rfl
set_option maxHeartbeats 1000000 in
theorem look_calls (A : Option Addr) (cap : Nat) (l : List Nd) (w : World) (hn : Nodes w A 3 l) (hm : ∀ k, k < 3 → (ndAt l k).md = 3 ∧ (ndAt l k).ps = 2) :
  Calls Tryz.prog 54 #[.slice none 0 0, .agg #[.int .i64 23, .int .i64 2, .int .i64 1, .int .i64 2, .int .i64 1, .slice A 3 cap]] w fun e w' => ∃ v', e = .returned v' ∧ Own w' w.heap.size v' (tx2 3 ++ [10]) ∧ Below w.heap.size w w' := by
 obtain ⟨i0, hi, hz0, hz1, hz2⟩ := info_parts byteInfo
 obtain ⟨B, hBw⟩ : ∃ B, B = w.heap.size := ⟨_, rfl⟩
 rw [← hBw]
 have hBle : B ≤ w.heap.size := by omega
 have hBge : w.heap.size ≤ B := by omega
 clear hBw
 have hn' := fun (k : Nat) (hk : k < 3) => Nodes.at_ hn hk
 have HN' := Lib.hid hn'
 have HM := Lib.hid hm
 have ix0' := fun W => ix0 W
 have ix1' := fun W => ix1 W
 clear hn hn' hm
 go_enter Tryz.func54, Tryz.ntmps54
 go_wp2_with fail
 refine (ai23_calls B (.slice none 0 0) [] _ (World.ownsRow_nil _ _ _ _) (by simp; omega) (by simp)).mono ?_
 rintro e w2 ⟨v1, rfl, ho, hb, hk⟩
 have HO : Hid (Own w2 B v1 (tx1 0)) := Lib.hid ho
 have hka := (Kept.alloc w (.cells #[.int .i64 23, .int .i64 2, .int .i64 1, .int .i64 2, .int .i64 1, .slice A 3 cap] 48)).trans hk
 have RL := Lib.hid ((Typed.new w #[.int .i64 23, .int .i64 2, .int .i64 1, .int .i64 2, .int .i64 1, .slice A 3 cap] 48).kept (by decide) hk)
 have HB : Hid (Below B w w2) := Lib.hid (((Below.refl B w).alloc (by omega) _).trans hb)
 have HK := Lib.hid hka
 clear ho hb hk hka
 have q1 := RL.out.row.at_ 1 (.int .i64 2) rfl
 have q2 := RL.out.row.at_ 2 (.int .i64 1) rfl
 have q3 := RL.out.row.at_ 3 (.int .i64 2) rfl
 have q4 := RL.out.row.at_ 4 (.int .i64 1) rfl
 go_wp2_with fail
 clear q1 q2 q3 q4
 go_loopw [0, 15] (fun vb vi wr => ((vi = .int .i64 0 ∧ Hid (Own wr B vb (tx1 0))) ∨ (vi = .int .i64 1 ∧ Hid (Own wr B vb (tx1 1))) ∨ (vi = .int .i64 2 ∧ Hid (Own wr B vb (tx1 2)))) ∧ Hid (Typed wr w.heap.size 48 [.int .i64 23, .int .i64 2, .int .i64 1, .int .i64 2, .int .i64 1, .slice A 3 cap]) ∧ Hid (Below B w wr) ∧ Hid (Kept w wr)) (fun _ vi _ => 2 - (intOf vi).toNat)
 case atStart => exact ⟨Or.inl ⟨rfl, HO⟩, RL, HB, HK⟩
 case round =>
  clear HO RL HB HK
  obtain ⟨hc, RL, HB, HK⟩ := hrel
  rcases hc with ⟨rfl, HO⟩ | ⟨rfl, HO⟩ | ⟨rfl, HO⟩
  ·have jx := ix0'
   have hl1 := tx1_len 0
   go_wp2_with fail
   have HO1 : Hid (Own (wr.alloc (.cells #[.int .i64 2, .int .i64 1] 45)) B u0 _) := Lib.hid (HO.out.alloc (.cells #[.int .i64 2, .int .i64 1] 45))
   have hka := Kept.alloc wr (.cells #[.int .i64 2, .int .i64 1] 45)
   have RL1 := Lib.hid (RL.out.kept (by decide) hka)
   have RF := Lib.hid (Typed.new wr #[.int .i64 2, .int .i64 1] 45)
   have HB1 := Lib.hid (HB.out.alloc (by have := HB.out.size; omega) (.cells #[.int .i64 2, .int .i64 1] 45))
   have HKL := Lib.hid (HK.out.trans hka)
   have HK1 := Lib.hid (Kept.drew (wr.alloc (.cells #[.int .i64 2, .int .i64 1] 45)))
   clear HO RL HB HK hka
   generalize hw2 : wr.alloc (.cells #[.int .i64 2, .int .i64 1] 45) = w2 at *
   generalize wr.heap.size = F at *
   clear hw2
   have HO := HO1
   have HB := HB1
   have HK : Hid (Kept w2 w2) := Lib.hid ⟨Nat.le_refl _, fun _ _ _ => rfl⟩
   clear HO1 HB1 HK1
   have f0 := RF.out.row.at_ 0 (.int .i64 2) rfl
   have f1 := RF.out.row.at_ 1 (.int .i64 1) rfl
   refine wp_region_held_drew (S := (fun w' => w'.cell? ⟨F, 0, none⟩ = some (.int .i64 2) ∧ w'.cell? ⟨F, 1, none⟩ = some (.int .i64 1))) (by kernel_rfl) ?_ (fun hHeld => ?_)
   ·go_keep
   refine Rgn.tk 0 rfl ?_
   try simp only [Act.put, Rgn.a, Rgn.b, Rgn.c]
   refine Rgn.tk 3 rfl ?_
   try simp only [Act.put, Rgn.a, Rgn.b, Rgn.c]
   refine Rgn.one 1 rfl (by kernel_rfl) (fun K hK => ?_)
   go_simp
   have HN := Lib.hid (show ∀ j u, [Value.int .u8 32][j]? = some u → ((w2.alloc (.cells #[.int .u8 32] 5)).drew).cell? ((⟨w2.heap.size, 0, none⟩ : Addr).add j) = some u from cell_one_new w2 (.int .u8 32) 5)
   replace HO : Hid (Own (w2.alloc (.cells #[.int .u8 32] 5)).drew B _ _) := Lib.hid (HO.out.alloc (.cells #[.int .u8 32] 5)).drew
   have hka := (Kept.alloc w2 (.cells #[.int .u8 32] 5)).trans (Kept.drew _)
   replace RF := Lib.hid (RF.out.kept (by decide) hka)
   replace HK := Lib.hid (HK.out.trans hka)
   replace HB := Lib.hid (HB.out.alloc (by have := HB.out.size; omega) (.cells #[.int .u8 32] 5)).drew
   clear f0 f1 hka
   generalize (w2.alloc (.cells #[.int .u8 32] 5)).drew = w3 at *
   have f0 := RF.out.row.at_ 0 (.int .i64 2) rfl; have f1 := RF.out.row.at_ 1 (.int .i64 1) rfl
   refine hK.out _ _ ?_ (fun hHeld => ?_)
   ·first | go_keep | ((try dsimp only); (repeat' apply And.intro) <;> first | assumption | go_simp)
   clear hK K
   try simp only [Act.put, Rgn.a, Rgn.b, Rgn.c]
   refine Rgn.one 2 rfl (by kernel_rfl) (fun K hK => ?_)
   rw [if_pos (by kernel_rfl)]
   refine Sw.wp_append_at (.tmp 18) (.tmp 19) 94 rfl B 5 i0 (.int .u8 0) 1 1 Tryz.underlying94 hi hz0 hz1 hz2 rfl (by decide) _ _ _ rfl HO.out ⟨w2.heap.size, 0, none⟩ 1 1 [.int .u8 32] rfl rfl ?c1 ?c2 ?c3 ?c4 ?c5 ?_
   case c1 => exact HN.out
   case c2 => intro u hu; simp at hu; subst hu; rfl
   case c3 => unfold maxLen; omega
   case c4 => omega
   case c5 => have := HB.out.size; omega
   intro v4 w4 hown hgrow _
   have hb4 := own_grown' HO.out (by have := HB.out.size; omega) hgrow
   have hk4 := Kept.own HO.out hgrow
   replace HB := Lib.hid (HB.out.trans hb4)
   replace HK := Lib.hid (HK.out.trans hk4)
   replace RF := Lib.hid (RF.out.kept (by decide) hk4)
   replace HO := Lib.hid (own_one (c := 32) hown)
   clear f0 f1 hown hgrow hb4 hk4 HN
   have f0 := RF.out.row.at_ 0 (.int .i64 2) rfl; have f1 := RF.out.row.at_ 1 (.int .i64 1) rfl
   refine hK.out _ _ ?_ (fun hHeld => ?_)
   ·first | go_keep | ((try dsimp only); (repeat' apply And.intro) <;> first | assumption | go_simp)
   clear hK K
   try simp only [Act.put, Rgn.a, Rgn.b, Rgn.c]
   refine Rgn.one 4 rfl (by kernel_rfl) (fun K hK => ?_)
   go_simp
   refine (frame_calls B v4 _ _ HO.out (by have := HB.out.size; omega) (by simp only [List.length_append, List.length_cons, List.length_nil] at *; omega)).mono ?_
   rintro e w5 ⟨v5, rfl, ho5, hb5, hk5⟩
   replace HB := Lib.hid (HB.out.trans hb5)
   replace HK := Lib.hid (HK.out.trans hk5)
   replace RF := Lib.hid (RF.out.kept (by decide) hk5)
   replace HO := Lib.hid ho5
   clear f0 f1 ho5 hb5 hk5
   have f0 := RF.out.row.at_ 0 (.int .i64 2) rfl; have f1 := RF.out.row.at_ 1 (.int .i64 1) rfl
   go_simp
   refine hK.out _ _ ?_ (fun hHeld => ?_)
   ·first | go_keep | ((try dsimp only); (repeat' apply And.intro) <;> first | assumption | go_simp)
   clear hK K
   try simp only [Act.put, Rgn.a, Rgn.b, Rgn.c]
   refine Rgn.tk 5 rfl ?_
   try simp only [Act.put, Rgn.a, Rgn.b, Rgn.c]
   refine wpAnyH_done (by kernel_rfl) ?_ _
   clear f0 f1
   have hK2 := HK.out
   go_wp2_with fail
   go_roundw
   case rel => exact ⟨Or.inr (Or.inl ⟨by go_num, Lib.hid (by rw [tx1_succ]; exact HO.out)⟩), Lib.hid (RL1.out.kept (by decide) hK2), HB, Lib.hid (HKL.out.trans hK2)⟩
   case measure => simp [intOf]
  ·have jx := ix1'
   have hl1 := tx1_len 1
   go_wp2_with fail
   have HO1 : Hid (Own (wr.alloc (.cells #[.int .i64 2, .int .i64 1] 45)) B u0 _) := Lib.hid (HO.out.alloc (.cells #[.int .i64 2, .int .i64 1] 45))
   have hka := Kept.alloc wr (.cells #[.int .i64 2, .int .i64 1] 45)
   have RL1 := Lib.hid (RL.out.kept (by decide) hka)
   have RF := Lib.hid (Typed.new wr #[.int .i64 2, .int .i64 1] 45)
   have HB1 := Lib.hid (HB.out.alloc (by have := HB.out.size; omega) (.cells #[.int .i64 2, .int .i64 1] 45))
   have HKL := Lib.hid (HK.out.trans hka)
   have HK1 := Lib.hid (Kept.drew (wr.alloc (.cells #[.int .i64 2, .int .i64 1] 45)))
   clear HO RL HB HK hka
   generalize hw2 : wr.alloc (.cells #[.int .i64 2, .int .i64 1] 45) = w2 at *
   generalize wr.heap.size = F at *
   clear hw2
   have HO := HO1
   have HB := HB1
   have HK : Hid (Kept w2 w2) := Lib.hid ⟨Nat.le_refl _, fun _ _ _ => rfl⟩
   clear HO1 HB1 HK1
   have f0 := RF.out.row.at_ 0 (.int .i64 2) rfl
   have f1 := RF.out.row.at_ 1 (.int .i64 1) rfl
   refine wp_region_held_drew (S := (fun w' => w'.cell? ⟨F, 0, none⟩ = some (.int .i64 2) ∧ w'.cell? ⟨F, 1, none⟩ = some (.int .i64 1))) (by kernel_rfl) ?_ (fun hHeld => ?_)
   ·go_keep
   refine Rgn.tk 0 rfl ?_
   try simp only [Act.put, Rgn.a, Rgn.b, Rgn.c]
   refine Rgn.tk 3 rfl ?_
   try simp only [Act.put, Rgn.a, Rgn.b, Rgn.c]
   refine Rgn.one 1 rfl (by kernel_rfl) (fun K hK => ?_)
   go_simp
   have HN := Lib.hid (show ∀ j u, [Value.int .u8 32][j]? = some u → ((w2.alloc (.cells #[.int .u8 32] 5)).drew).cell? ((⟨w2.heap.size, 0, none⟩ : Addr).add j) = some u from cell_one_new w2 (.int .u8 32) 5)
   replace HO : Hid (Own (w2.alloc (.cells #[.int .u8 32] 5)).drew B _ _) := Lib.hid (HO.out.alloc (.cells #[.int .u8 32] 5)).drew
   have hka := (Kept.alloc w2 (.cells #[.int .u8 32] 5)).trans (Kept.drew _)
   replace RF := Lib.hid (RF.out.kept (by decide) hka)
   replace HK := Lib.hid (HK.out.trans hka)
   replace HB := Lib.hid (HB.out.alloc (by have := HB.out.size; omega) (.cells #[.int .u8 32] 5)).drew
   clear f0 f1 hka
   generalize (w2.alloc (.cells #[.int .u8 32] 5)).drew = w3 at *
   have f0 := RF.out.row.at_ 0 (.int .i64 2) rfl; have f1 := RF.out.row.at_ 1 (.int .i64 1) rfl
   refine hK.out _ _ ?_ (fun hHeld => ?_)
   ·first | go_keep | ((try dsimp only); (repeat' apply And.intro) <;> first | assumption | go_simp)
   clear hK K
   try simp only [Act.put, Rgn.a, Rgn.b, Rgn.c]
   refine Rgn.one 2 rfl (by kernel_rfl) (fun K hK => ?_)
   rw [if_pos (by kernel_rfl)]
   refine Sw.wp_append_at (.tmp 18) (.tmp 19) 94 rfl B 5 i0 (.int .u8 0) 1 1 Tryz.underlying94 hi hz0 hz1 hz2 rfl (by decide) _ _ _ rfl HO.out ⟨w2.heap.size, 0, none⟩ 1 1 [.int .u8 32] rfl rfl ?c1 ?c2 ?c3 ?c4 ?c5 ?_
   case c1 => exact HN.out
   case c2 => intro u hu; simp at hu; subst hu; rfl
   case c3 => unfold maxLen; omega
   case c4 => omega
   case c5 => have := HB.out.size; omega
   intro v4 w4 hown hgrow _
   have hb4 := own_grown' HO.out (by have := HB.out.size; omega) hgrow
   have hk4 := Kept.own HO.out hgrow
   replace HB := Lib.hid (HB.out.trans hb4)
   replace HK := Lib.hid (HK.out.trans hk4)
   replace RF := Lib.hid (RF.out.kept (by decide) hk4)
   replace HO := Lib.hid (own_one (c := 32) hown)
   clear f0 f1 hown hgrow hb4 hk4 HN
   have f0 := RF.out.row.at_ 0 (.int .i64 2) rfl; have f1 := RF.out.row.at_ 1 (.int .i64 1) rfl
   refine hK.out _ _ ?_ (fun hHeld => ?_)
   ·first | go_keep | ((try dsimp only); (repeat' apply And.intro) <;> first | assumption | go_simp)
   clear hK K
   try simp only [Act.put, Rgn.a, Rgn.b, Rgn.c]
   refine Rgn.one 4 rfl (by kernel_rfl) (fun K hK => ?_)
   go_simp
   refine (frame_calls B v4 _ _ HO.out (by have := HB.out.size; omega) (by simp only [List.length_append, List.length_cons, List.length_nil] at *; omega)).mono ?_
   rintro e w5 ⟨v5, rfl, ho5, hb5, hk5⟩
   replace HB := Lib.hid (HB.out.trans hb5)
   replace HK := Lib.hid (HK.out.trans hk5)
   replace RF := Lib.hid (RF.out.kept (by decide) hk5)
   replace HO := Lib.hid ho5
   clear f0 f1 ho5 hb5 hk5
   have f0 := RF.out.row.at_ 0 (.int .i64 2) rfl; have f1 := RF.out.row.at_ 1 (.int .i64 1) rfl
   go_simp
   refine hK.out _ _ ?_ (fun hHeld => ?_)
   ·first | go_keep | ((try dsimp only); (repeat' apply And.intro) <;> first | assumption | go_simp)
   clear hK K
   try simp only [Act.put, Rgn.a, Rgn.b, Rgn.c]
   refine Rgn.tk 5 rfl ?_
   try simp only [Act.put, Rgn.a, Rgn.b, Rgn.c]
   refine wpAnyH_done (by kernel_rfl) ?_ _
   clear f0 f1
   have hK2 := HK.out
   go_wp2_with fail
   go_roundw
   case rel => exact ⟨Or.inr (Or.inr ⟨by go_num, Lib.hid (by rw [tx1_succ]; exact HO.out)⟩), Lib.hid (RL1.out.kept (by decide) hK2), HB, Lib.hid (HKL.out.trans hK2)⟩
   case measure => simp [intOf]
  ·have q5 := RL.out.row.at_ 5 (.slice A 3 cap) rfl
   go_wp2_with fail
   clear q5
   have HO2 : Hid (Own wr B u0 (tx2 0)) := HO
   clear HO
   go_loopw [0, 27] (fun vb vi wr => ((vi = .int .i64 0 ∧ Hid (Own wr B vb (tx2 0))) ∨ (vi = .int .i64 1 ∧ Hid (Own wr B vb (tx2 1))) ∨ (vi = .int .i64 2 ∧ Hid (Own wr B vb (tx2 2))) ∨ (vi = .int .i64 3 ∧ Hid (Own wr B vb (tx2 3)))) ∧ Hid (Typed wr w.heap.size 48 [.int .i64 23, .int .i64 2, .int .i64 1, .int .i64 2, .int .i64 1, .slice A 3 cap]) ∧ Hid (Below B w wr) ∧ Hid (Kept w wr)) (fun _ vi _ => 3 - (intOf vi).toNat)
   case atStart => exact ⟨Or.inl ⟨rfl, HO2⟩, RL, HB, HK⟩
   case round =>
    clear HO2 RL HB HK
    obtain ⟨hc, RL, HB, HK⟩ := hrel
    rcases hc with ⟨rfl, HO⟩ | ⟨rfl, HO⟩ | ⟨rfl, HO⟩ | ⟨rfl, HO⟩
    ·have hl1 := tx2_len 0
     obtain ⟨b, off, ea, hb, m0, m1, m2, m3⟩ := HN'.out 0 (by omega)
     obtain ⟨hmd, hps⟩ := HM.out 0 (by omega)
     rw [hmd] at m1
     rw [hps] at m3
     subst ea
     replace m0 := (HB.out.cell (p := ⟨b, off + 0 * 4, none⟩) (show b < B by omega)).trans m0
     replace m1 := (HB.out.cell (p := ⟨b, off + 0 * 4 + 1, none⟩) (show b < B by omega)).trans m1
     replace m2 := (HB.out.cell (p := ⟨b, off + 0 * 4 + 2, none⟩) (show b < B by omega)).trans m2
     replace m3 := (HB.out.cell (p := ⟨b, off + 0 * 4 + 3, none⟩) (show b < B by omega)).trans m3
     simp only [Nat.zero_mul, Nat.add_zero] at m0 m1 m2 m3
     go_wp2_with fail
     have HO1 : Hid (Own (wr.alloc (.cells #[.int .i64 (ndAt l 0).id, .int .i64 3, .int .i64 (ndAt l 0).ct, .int .i64 2] 60)) B u0 _) := Lib.hid (HO.out.alloc (.cells #[.int .i64 (ndAt l 0).id, .int .i64 3, .int .i64 (ndAt l 0).ct, .int .i64 2] 60))
     have hka := Kept.alloc wr (.cells #[.int .i64 (ndAt l 0).id, .int .i64 3, .int .i64 (ndAt l 0).ct, .int .i64 2] 60)
     have RL1 := Lib.hid (RL.out.kept (by decide) hka)
     have RF := Lib.hid (Typed.new wr #[.int .i64 (ndAt l 0).id, .int .i64 3, .int .i64 (ndAt l 0).ct, .int .i64 2] 60)
     have HB1 := Lib.hid (HB.out.alloc (by have := HB.out.size; omega) (.cells #[.int .i64 (ndAt l 0).id, .int .i64 3, .int .i64 (ndAt l 0).ct, .int .i64 2] 60))
     have HKL := Lib.hid (HK.out.trans hka)
     have HK1 := Lib.hid (Kept.drew (wr.alloc (.cells #[.int .i64 (ndAt l 0).id, .int .i64 3, .int .i64 (ndAt l 0).ct, .int .i64 2] 60)))
     clear HO RL HB HK hka
     generalize hw2 : wr.alloc (.cells #[.int .i64 (ndAt l 0).id, .int .i64 3, .int .i64 (ndAt l 0).ct, .int .i64 2] 60) = w2 at *
     generalize wr.heap.size = F at *
     clear hw2
     have HO := HO1
     have HB := HB1
     have HK : Hid (Kept w2 w2) := Lib.hid ⟨Nat.le_refl _, fun _ _ _ => rfl⟩
     clear HO1 HB1 HK1 m0 m1 m2 m3
     have f0 := RF.out.row.at_ 0 (.int .i64 (ndAt l 0).id) rfl
     have f1 := RF.out.row.at_ 1 (.int .i64 3) rfl
     have f2 := RF.out.row.at_ 2 (.int .i64 (ndAt l 0).ct) rfl
     have f3 := RF.out.row.at_ 3 (.int .i64 2) rfl
     refine wp_region_held_drew (S := (fun w' => w'.cell? ⟨F, 0, none⟩ = some (.int .i64 (ndAt l 0).id) ∧ w'.cell? ⟨F, 1, none⟩ = some (.int .i64 3) ∧ w'.cell? ⟨F, 2, none⟩ = some (.int .i64 (ndAt l 0).ct) ∧ w'.cell? ⟨F, 3, none⟩ = some (.int .i64 2))) (by kernel_rfl) ?_ (fun hHeld => ?_)
     ·go_keep
     refine Rgn.tk 0 rfl ?_
     try simp only [Act.put, Rgn.a, Rgn.b, Rgn.c]
     refine Rgn.tk 3 rfl ?_
     try simp only [Act.put, Rgn.a, Rgn.b, Rgn.c]
     refine Rgn.one 1 rfl (by kernel_rfl) (fun K hK => ?_)
     go_simp
     have HN := Lib.hid (show ∀ j u, [Value.int .u8 32][j]? = some u → ((w2.alloc (.cells #[.int .u8 32] 5)).drew).cell? ((⟨w2.heap.size, 0, none⟩ : Addr).add j) = some u from cell_one_new w2 (.int .u8 32) 5)
     replace HO : Hid (Own (w2.alloc (.cells #[.int .u8 32] 5)).drew B _ _) := Lib.hid (HO.out.alloc (.cells #[.int .u8 32] 5)).drew
     have hka := (Kept.alloc w2 (.cells #[.int .u8 32] 5)).trans (Kept.drew _)
     replace RF := Lib.hid (RF.out.kept (by decide) hka)
     replace HK := Lib.hid (HK.out.trans hka)
     replace HB := Lib.hid (HB.out.alloc (by have := HB.out.size; omega) (.cells #[.int .u8 32] 5)).drew
     clear f0 f1 f2 f3 hka
     generalize (w2.alloc (.cells #[.int .u8 32] 5)).drew = w3 at *
     have f0 := RF.out.row.at_ 0 (.int .i64 (ndAt l 0).id) rfl; have f1 := RF.out.row.at_ 1 (.int .i64 3) rfl; have f2 := RF.out.row.at_ 2 (.int .i64 (ndAt l 0).ct) rfl; have f3 := RF.out.row.at_ 3 (.int .i64 2) rfl
     refine hK.out _ _ ?_ (fun hHeld => ?_)
     ·first | go_keep | ((try dsimp only); (repeat' apply And.intro) <;> first | assumption | go_simp)
     clear hK K
     try simp only [Act.put, Rgn.a, Rgn.b, Rgn.c]
     refine Rgn.one 2 rfl (by kernel_rfl) (fun K hK => ?_)
     rw [if_pos (by kernel_rfl)]
     refine Sw.wp_append_at (.tmp 31) (.tmp 32) 94 rfl B 5 i0 (.int .u8 0) 1 1 Tryz.underlying94 hi hz0 hz1 hz2 rfl (by decide) _ _ _ rfl HO.out ⟨w2.heap.size, 0, none⟩ 1 1 [.int .u8 32] rfl rfl ?c1 ?c2 ?c3 ?c4 ?c5 ?_
     case c1 => exact HN.out
     case c2 => intro u hu; simp at hu; subst hu; rfl
     case c3 => unfold maxLen; omega
     case c4 => omega
     case c5 => have := HB.out.size; omega
     intro v4 w4 hown hgrow _
     have hb4 := own_grown' HO.out (by have := HB.out.size; omega) hgrow
     have hk4 := Kept.own HO.out hgrow
     replace HB := Lib.hid (HB.out.trans hb4)
     replace HK := Lib.hid (HK.out.trans hk4)
     replace RF := Lib.hid (RF.out.kept (by decide) hk4)
     replace HO := Lib.hid (own_one (c := 32) hown)
     clear f0 f1 f2 f3 hown hgrow hb4 hk4 HN
     have f0 := RF.out.row.at_ 0 (.int .i64 (ndAt l 0).id) rfl; have f1 := RF.out.row.at_ 1 (.int .i64 3) rfl; have f2 := RF.out.row.at_ 2 (.int .i64 (ndAt l 0).ct) rfl; have f3 := RF.out.row.at_ 3 (.int .i64 2) rfl
     refine hK.out _ _ ?_ (fun hHeld => ?_)
     ·first | go_keep | ((try dsimp only); (repeat' apply And.intro) <;> first | assumption | go_simp)
     clear hK K
     try simp only [Act.put, Rgn.a, Rgn.b, Rgn.c]
     refine Rgn.one 4 rfl (by kernel_rfl) (fun K hK => ?_)
     go_simp
     refine (node_calls B v4 _ _ _ _ HO.out (by have := HB.out.size; omega) (by simp only [List.length_append, List.length_cons, List.length_nil] at *; omega)).mono ?_
     rintro e w5 ⟨v5, rfl, ho5, hb5, hk5⟩
     replace HB := Lib.hid (HB.out.trans hb5)
     replace HK := Lib.hid (HK.out.trans hk5)
     replace RF := Lib.hid (RF.out.kept (by decide) hk5)
     replace HO := Lib.hid ho5
     clear f0 f1 f2 f3 ho5 hb5 hk5
     have f0 := RF.out.row.at_ 0 (.int .i64 (ndAt l 0).id) rfl; have f1 := RF.out.row.at_ 1 (.int .i64 3) rfl; have f2 := RF.out.row.at_ 2 (.int .i64 (ndAt l 0).ct) rfl; have f3 := RF.out.row.at_ 3 (.int .i64 2) rfl
     go_simp
     refine hK.out _ _ ?_ (fun hHeld => ?_)
     ·first | go_keep | ((try dsimp only); (repeat' apply And.intro) <;> first | assumption | go_simp)
     clear hK K
     try simp only [Act.put, Rgn.a, Rgn.b, Rgn.c]
     refine Rgn.tk 5 rfl ?_
     try simp only [Act.put, Rgn.a, Rgn.b, Rgn.c]
     refine wpAnyH_done (by kernel_rfl) ?_ _
     clear f0 f1 f2 f3
     have hK2 := HK.out
     go_wp2_with fail
     go_roundw
     case rel => exact ⟨Or.inr (Or.inl ⟨by go_num, Lib.hid (by rw [tx2_succ]; exact HO.out)⟩), Lib.hid (RL1.out.kept (by decide) hK2), HB, Lib.hid (HKL.out.trans hK2)⟩
     case measure => simp [intOf]
    ·have hl1 := tx2_len 1
     obtain ⟨b, off, ea, hb, m0, m1, m2, m3⟩ := HN'.out 1 (by omega)
     obtain ⟨hmd, hps⟩ := HM.out 1 (by omega)
     rw [hmd] at m1
     rw [hps] at m3
     subst ea
     replace m0 := (HB.out.cell (p := ⟨b, off + 1 * 4, none⟩) (show b < B by omega)).trans m0
     replace m1 := (HB.out.cell (p := ⟨b, off + 1 * 4 + 1, none⟩) (show b < B by omega)).trans m1
     replace m2 := (HB.out.cell (p := ⟨b, off + 1 * 4 + 2, none⟩) (show b < B by omega)).trans m2
     replace m3 := (HB.out.cell (p := ⟨b, off + 1 * 4 + 3, none⟩) (show b < B by omega)).trans m3
     go_wp2_with fail
     have HO1 : Hid (Own (wr.alloc (.cells #[.int .i64 (ndAt l 1).id, .int .i64 3, .int .i64 (ndAt l 1).ct, .int .i64 2] 60)) B u0 _) := Lib.hid (HO.out.alloc (.cells #[.int .i64 (ndAt l 1).id, .int .i64 3, .int .i64 (ndAt l 1).ct, .int .i64 2] 60))
     have hka := Kept.alloc wr (.cells #[.int .i64 (ndAt l 1).id, .int .i64 3, .int .i64 (ndAt l 1).ct, .int .i64 2] 60)
     have RL1 := Lib.hid (RL.out.kept (by decide) hka)
     have RF := Lib.hid (Typed.new wr #[.int .i64 (ndAt l 1).id, .int .i64 3, .int .i64 (ndAt l 1).ct, .int .i64 2] 60)
     have HB1 := Lib.hid (HB.out.alloc (by have := HB.out.size; omega) (.cells #[.int .i64 (ndAt l 1).id, .int .i64 3, .int .i64 (ndAt l 1).ct, .int .i64 2] 60))
     have HKL := Lib.hid (HK.out.trans hka)
     have HK1 := Lib.hid (Kept.drew (wr.alloc (.cells #[.int .i64 (ndAt l 1).id, .int .i64 3, .int .i64 (ndAt l 1).ct, .int .i64 2] 60)))
     clear HO RL HB HK hka
     generalize hw2 : wr.alloc (.cells #[.int .i64 (ndAt l 1).id, .int .i64 3, .int .i64 (ndAt l 1).ct, .int .i64 2] 60) = w2 at *
     generalize wr.heap.size = F at *
     clear hw2
     have HO := HO1
     have HB := HB1
     have HK : Hid (Kept w2 w2) := Lib.hid ⟨Nat.le_refl _, fun _ _ _ => rfl⟩
     clear HO1 HB1 HK1 m0 m1 m2 m3
     have f0 := RF.out.row.at_ 0 (.int .i64 (ndAt l 1).id) rfl
     have f1 := RF.out.row.at_ 1 (.int .i64 3) rfl
     have f2 := RF.out.row.at_ 2 (.int .i64 (ndAt l 1).ct) rfl
     have f3 := RF.out.row.at_ 3 (.int .i64 2) rfl
     refine wp_region_held_drew (S := (fun w' => w'.cell? ⟨F, 0, none⟩ = some (.int .i64 (ndAt l 1).id) ∧ w'.cell? ⟨F, 1, none⟩ = some (.int .i64 3) ∧ w'.cell? ⟨F, 2, none⟩ = some (.int .i64 (ndAt l 1).ct) ∧ w'.cell? ⟨F, 3, none⟩ = some (.int .i64 2))) (by kernel_rfl) ?_ (fun hHeld => ?_)
     ·go_keep
     refine Rgn.tk 0 rfl ?_
     try simp only [Act.put, Rgn.a, Rgn.b, Rgn.c]
     refine Rgn.tk 3 rfl ?_
     try simp only [Act.put, Rgn.a, Rgn.b, Rgn.c]
     refine Rgn.one 1 rfl (by kernel_rfl) (fun K hK => ?_)
     go_simp
     have HN := Lib.hid (show ∀ j u, [Value.int .u8 32][j]? = some u → ((w2.alloc (.cells #[.int .u8 32] 5)).drew).cell? ((⟨w2.heap.size, 0, none⟩ : Addr).add j) = some u from cell_one_new w2 (.int .u8 32) 5)
     replace HO : Hid (Own (w2.alloc (.cells #[.int .u8 32] 5)).drew B _ _) := Lib.hid (HO.out.alloc (.cells #[.int .u8 32] 5)).drew
     have hka := (Kept.alloc w2 (.cells #[.int .u8 32] 5)).trans (Kept.drew _)
     replace RF := Lib.hid (RF.out.kept (by decide) hka)
     replace HK := Lib.hid (HK.out.trans hka)
     replace HB := Lib.hid (HB.out.alloc (by have := HB.out.size; omega) (.cells #[.int .u8 32] 5)).drew
     clear f0 f1 f2 f3 hka
     generalize (w2.alloc (.cells #[.int .u8 32] 5)).drew = w3 at *
     have f0 := RF.out.row.at_ 0 (.int .i64 (ndAt l 1).id) rfl; have f1 := RF.out.row.at_ 1 (.int .i64 3) rfl; have f2 := RF.out.row.at_ 2 (.int .i64 (ndAt l 1).ct) rfl; have f3 := RF.out.row.at_ 3 (.int .i64 2) rfl
     refine hK.out _ _ ?_ (fun hHeld => ?_)
     ·first | go_keep | ((try dsimp only); (repeat' apply And.intro) <;> first | assumption | go_simp)
     clear hK K
     try simp only [Act.put, Rgn.a, Rgn.b, Rgn.c]
     refine Rgn.one 2 rfl (by kernel_rfl) (fun K hK => ?_)
     rw [if_pos (by kernel_rfl)]
     refine Sw.wp_append_at (.tmp 31) (.tmp 32) 94 rfl B 5 i0 (.int .u8 0) 1 1 Tryz.underlying94 hi hz0 hz1 hz2 rfl (by decide) _ _ _ rfl HO.out ⟨w2.heap.size, 0, none⟩ 1 1 [.int .u8 32] rfl rfl ?c1 ?c2 ?c3 ?c4 ?c5 ?_
     case c1 => exact HN.out
     case c2 => intro u hu; simp at hu; subst hu; rfl
     case c3 => unfold maxLen; omega
     case c4 => omega
     case c5 => have := HB.out.size; omega
     intro v4 w4 hown hgrow _
     have hb4 := own_grown' HO.out (by have := HB.out.size; omega) hgrow
     have hk4 := Kept.own HO.out hgrow
     replace HB := Lib.hid (HB.out.trans hb4)
     replace HK := Lib.hid (HK.out.trans hk4)
     replace RF := Lib.hid (RF.out.kept (by decide) hk4)
     replace HO := Lib.hid (own_one (c := 32) hown)
     clear f0 f1 f2 f3 hown hgrow hb4 hk4 HN
     have f0 := RF.out.row.at_ 0 (.int .i64 (ndAt l 1).id) rfl; have f1 := RF.out.row.at_ 1 (.int .i64 3) rfl; have f2 := RF.out.row.at_ 2 (.int .i64 (ndAt l 1).ct) rfl; have f3 := RF.out.row.at_ 3 (.int .i64 2) rfl
     refine hK.out _ _ ?_ (fun hHeld => ?_)
     ·first | go_keep | ((try dsimp only); (repeat' apply And.intro) <;> first | assumption | go_simp)
     clear hK K
     try simp only [Act.put, Rgn.a, Rgn.b, Rgn.c]
     refine Rgn.one 4 rfl (by kernel_rfl) (fun K hK => ?_)
     go_simp
     refine (node_calls B v4 _ _ _ _ HO.out (by have := HB.out.size; omega) (by simp only [List.length_append, List.length_cons, List.length_nil] at *; omega)).mono ?_
     rintro e w5 ⟨v5, rfl, ho5, hb5, hk5⟩
     replace HB := Lib.hid (HB.out.trans hb5)
     replace HK := Lib.hid (HK.out.trans hk5)
     replace RF := Lib.hid (RF.out.kept (by decide) hk5)
     replace HO := Lib.hid ho5
     clear f0 f1 f2 f3 ho5 hb5 hk5
     have f0 := RF.out.row.at_ 0 (.int .i64 (ndAt l 1).id) rfl; have f1 := RF.out.row.at_ 1 (.int .i64 3) rfl; have f2 := RF.out.row.at_ 2 (.int .i64 (ndAt l 1).ct) rfl; have f3 := RF.out.row.at_ 3 (.int .i64 2) rfl
     go_simp
     refine hK.out _ _ ?_ (fun hHeld => ?_)
     ·first | go_keep | ((try dsimp only); (repeat' apply And.intro) <;> first | assumption | go_simp)
     clear hK K
     try simp only [Act.put, Rgn.a, Rgn.b, Rgn.c]
     refine Rgn.tk 5 rfl ?_
     try simp only [Act.put, Rgn.a, Rgn.b, Rgn.c]
     refine wpAnyH_done (by kernel_rfl) ?_ _
     clear f0 f1 f2 f3
     have hK2 := HK.out
     go_wp2_with fail
     go_roundw
     case rel => exact ⟨Or.inr (Or.inr (Or.inl ⟨by go_num, Lib.hid (by rw [tx2_succ]; exact HO.out)⟩)), Lib.hid (RL1.out.kept (by decide) hK2), HB, Lib.hid (HKL.out.trans hK2)⟩
     case measure => simp [intOf]
    ·have hl1 := tx2_len 2
     obtain ⟨b, off, ea, hb, m0, m1, m2, m3⟩ := HN'.out 2 (by omega)
     obtain ⟨hmd, hps⟩ := HM.out 2 (by omega)
     rw [hmd] at m1
     rw [hps] at m3
     subst ea
     replace m0 := (HB.out.cell (p := ⟨b, off + 2 * 4, none⟩) (show b < B by omega)).trans m0
     replace m1 := (HB.out.cell (p := ⟨b, off + 2 * 4 + 1, none⟩) (show b < B by omega)).trans m1
     replace m2 := (HB.out.cell (p := ⟨b, off + 2 * 4 + 2, none⟩) (show b < B by omega)).trans m2
     replace m3 := (HB.out.cell (p := ⟨b, off + 2 * 4 + 3, none⟩) (show b < B by omega)).trans m3
     go_wp2_with fail
     have HO1 : Hid (Own (wr.alloc (.cells #[.int .i64 (ndAt l 2).id, .int .i64 3, .int .i64 (ndAt l 2).ct, .int .i64 2] 60)) B u0 _) := Lib.hid (HO.out.alloc (.cells #[.int .i64 (ndAt l 2).id, .int .i64 3, .int .i64 (ndAt l 2).ct, .int .i64 2] 60))
     have hka := Kept.alloc wr (.cells #[.int .i64 (ndAt l 2).id, .int .i64 3, .int .i64 (ndAt l 2).ct, .int .i64 2] 60)
     have RL1 := Lib.hid (RL.out.kept (by decide) hka)
     have RF := Lib.hid (Typed.new wr #[.int .i64 (ndAt l 2).id, .int .i64 3, .int .i64 (ndAt l 2).ct, .int .i64 2] 60)
     have HB1 := Lib.hid (HB.out.alloc (by have := HB.out.size; omega) (.cells #[.int .i64 (ndAt l 2).id, .int .i64 3, .int .i64 (ndAt l 2).ct, .int .i64 2] 60))
     have HKL := Lib.hid (HK.out.trans hka)
     have HK1 := Lib.hid (Kept.drew (wr.alloc (.cells #[.int .i64 (ndAt l 2).id, .int .i64 3, .int .i64 (ndAt l 2).ct, .int .i64 2] 60)))
     clear HO RL HB HK hka
     generalize hw2 : wr.alloc (.cells #[.int .i64 (ndAt l 2).id, .int .i64 3, .int .i64 (ndAt l 2).ct, .int .i64 2] 60) = w2 at *
     generalize wr.heap.size = F at *
     clear hw2
     have HO := HO1
     have HB := HB1
     have HK : Hid (Kept w2 w2) := Lib.hid ⟨Nat.le_refl _, fun _ _ _ => rfl⟩
     clear HO1 HB1 HK1 m0 m1 m2 m3
     have f0 := RF.out.row.at_ 0 (.int .i64 (ndAt l 2).id) rfl
     have f1 := RF.out.row.at_ 1 (.int .i64 3) rfl
     have f2 := RF.out.row.at_ 2 (.int .i64 (ndAt l 2).ct) rfl
     have f3 := RF.out.row.at_ 3 (.int .i64 2) rfl
     refine wp_region_held_drew (S := (fun w' => w'.cell? ⟨F, 0, none⟩ = some (.int .i64 (ndAt l 2).id) ∧ w'.cell? ⟨F, 1, none⟩ = some (.int .i64 3) ∧ w'.cell? ⟨F, 2, none⟩ = some (.int .i64 (ndAt l 2).ct) ∧ w'.cell? ⟨F, 3, none⟩ = some (.int .i64 2))) (by kernel_rfl) ?_ (fun hHeld => ?_)
     ·go_keep
     refine Rgn.tk 0 rfl ?_
     try simp only [Act.put, Rgn.a, Rgn.b, Rgn.c]
     refine Rgn.tk 3 rfl ?_
     try simp only [Act.put, Rgn.a, Rgn.b, Rgn.c]
     refine Rgn.one 1 rfl (by kernel_rfl) (fun K hK => ?_)
     go_simp
     have HN := Lib.hid (show ∀ j u, [Value.int .u8 32][j]? = some u → ((w2.alloc (.cells #[.int .u8 32] 5)).drew).cell? ((⟨w2.heap.size, 0, none⟩ : Addr).add j) = some u from cell_one_new w2 (.int .u8 32) 5)
     replace HO : Hid (Own (w2.alloc (.cells #[.int .u8 32] 5)).drew B _ _) := Lib.hid (HO.out.alloc (.cells #[.int .u8 32] 5)).drew
     have hka := (Kept.alloc w2 (.cells #[.int .u8 32] 5)).trans (Kept.drew _)
     replace RF := Lib.hid (RF.out.kept (by decide) hka)
     replace HK := Lib.hid (HK.out.trans hka)
     replace HB := Lib.hid (HB.out.alloc (by have := HB.out.size; omega) (.cells #[.int .u8 32] 5)).drew
     clear f0 f1 f2 f3 hka
     generalize (w2.alloc (.cells #[.int .u8 32] 5)).drew = w3 at *
     have f0 := RF.out.row.at_ 0 (.int .i64 (ndAt l 2).id) rfl; have f1 := RF.out.row.at_ 1 (.int .i64 3) rfl; have f2 := RF.out.row.at_ 2 (.int .i64 (ndAt l 2).ct) rfl; have f3 := RF.out.row.at_ 3 (.int .i64 2) rfl
     refine hK.out _ _ ?_ (fun hHeld => ?_)
     ·first | go_keep | ((try dsimp only); (repeat' apply And.intro) <;> first | assumption | go_simp)
     clear hK K
     try simp only [Act.put, Rgn.a, Rgn.b, Rgn.c]
     refine Rgn.one 2 rfl (by kernel_rfl) (fun K hK => ?_)
     rw [if_pos (by kernel_rfl)]
     refine Sw.wp_append_at (.tmp 31) (.tmp 32) 94 rfl B 5 i0 (.int .u8 0) 1 1 Tryz.underlying94 hi hz0 hz1 hz2 rfl (by decide) _ _ _ rfl HO.out ⟨w2.heap.size, 0, none⟩ 1 1 [.int .u8 32] rfl rfl ?c1 ?c2 ?c3 ?c4 ?c5 ?_
     case c1 => exact HN.out
     case c2 => intro u hu; simp at hu; subst hu; rfl
     case c3 => unfold maxLen; omega
     case c4 => omega
     case c5 => have := HB.out.size; omega
     intro v4 w4 hown hgrow _
     have hb4 := own_grown' HO.out (by have := HB.out.size; omega) hgrow
     have hk4 := Kept.own HO.out hgrow
     replace HB := Lib.hid (HB.out.trans hb4)
     replace HK := Lib.hid (HK.out.trans hk4)
     replace RF := Lib.hid (RF.out.kept (by decide) hk4)
     replace HO := Lib.hid (own_one (c := 32) hown)
     clear f0 f1 f2 f3 hown hgrow hb4 hk4 HN
     have f0 := RF.out.row.at_ 0 (.int .i64 (ndAt l 2).id) rfl; have f1 := RF.out.row.at_ 1 (.int .i64 3) rfl; have f2 := RF.out.row.at_ 2 (.int .i64 (ndAt l 2).ct) rfl; have f3 := RF.out.row.at_ 3 (.int .i64 2) rfl
     refine hK.out _ _ ?_ (fun hHeld => ?_)
     ·first | go_keep | ((try dsimp only); (repeat' apply And.intro) <;> first | assumption | go_simp)
     clear hK K
     try simp only [Act.put, Rgn.a, Rgn.b, Rgn.c]
     refine Rgn.one 4 rfl (by kernel_rfl) (fun K hK => ?_)
     go_simp
     refine (node_calls B v4 _ _ _ _ HO.out (by have := HB.out.size; omega) (by simp only [List.length_append, List.length_cons, List.length_nil] at *; omega)).mono ?_
     rintro e w5 ⟨v5, rfl, ho5, hb5, hk5⟩
     replace HB := Lib.hid (HB.out.trans hb5)
     replace HK := Lib.hid (HK.out.trans hk5)
     replace RF := Lib.hid (RF.out.kept (by decide) hk5)
     replace HO := Lib.hid ho5
     clear f0 f1 f2 f3 ho5 hb5 hk5
     have f0 := RF.out.row.at_ 0 (.int .i64 (ndAt l 2).id) rfl; have f1 := RF.out.row.at_ 1 (.int .i64 3) rfl; have f2 := RF.out.row.at_ 2 (.int .i64 (ndAt l 2).ct) rfl; have f3 := RF.out.row.at_ 3 (.int .i64 2) rfl
     go_simp
     refine hK.out _ _ ?_ (fun hHeld => ?_)
     ·first | go_keep | ((try dsimp only); (repeat' apply And.intro) <;> first | assumption | go_simp)
     clear hK K
     try simp only [Act.put, Rgn.a, Rgn.b, Rgn.c]
     refine Rgn.tk 5 rfl ?_
     try simp only [Act.put, Rgn.a, Rgn.b, Rgn.c]
     refine wpAnyH_done (by kernel_rfl) ?_ _
     clear f0 f1 f2 f3
     have hK2 := HK.out
     go_wp2_with fail
     go_roundw
     case rel => exact ⟨Or.inr (Or.inr (Or.inr ⟨by go_num, Lib.hid (by rw [tx2_succ]; exact HO.out)⟩)), Lib.hid (RL1.out.kept (by decide) hK2), HB, Lib.hid (HKL.out.trans hK2)⟩
     case measure => simp [intOf]
    ·have hl3 := tx2_len 3
     have hbs := HB.out.size
     go_wp2_with (at_builtin; go_loud (refine wpList_append_own _ rfl _ _ 94 rfl B 5 i0 (.int .u8 0) 1 1 Tryz.underlying94 hi hz0 hz1 hz2 rfl (by decide) _ _ _ rfl (HO.out.alloc _) ⟨wr.heap.size, 0, Option.none⟩ 1 1 [.int .u8 10] rfl rfl ?c1 ?c2 ?c3 ?c4 ?c5 ?_))
     case c1 => exact cell_one_new _ _ _
     case c2 => intro u hu; simp at hu; subst hu; rfl
     case c3 => unfold maxLen; omega
     case c4 => omega
     case c5 => simp; omega
     intro v2 w3 hown hgrow _
     have A1 := Lib.hid (own_one (c := 10) hown)
     have B1 := Lib.hid (HB.out.trans (own_grown HO.out (by omega) hgrow))
     clear hown hgrow
     go_wp2_with fail
     go_ret
     exact ⟨_, rfl, A1.out, B1.out⟩
set_option maxHeartbeats 1000000 in
theorem Look_calls (A : Option Addr) (cap : Nat) (l : List Nd) (w : World) (hn : Nodes w A 3 l) (hm : ∀ k, k < 3 → (ndAt l k).md = 3 ∧ (ndAt l k).ps = 2) :
  Calls Tryz.prog 29 #[.agg #[.int .i64 23, .int .i64 2, .int .i64 1, .int .i64 2, .int .i64 1, .slice A 3 cap]] w fun e w' => e = .returned (.string ⟨#[50, 51, 32, 105, 49, 32, 105, 49, 32, 97, 50, 32, 97, 50, 32, 97, 50, 10]⟩) ∧ Below w.heap.size w w' := by
 have k := fun W (hW : Below w.heap.size w W) => look_calls A cap l W (hn.below hW) hm
 have K := Lib.hid k
 clear k hn hm
 go_enter Tryz.func29, Tryz.ntmps29
 go_wp2_with fail
 refine (K.out _ ((Below.refl _ _).alloc (Nat.le_refl _) _)).mono ?_
 rintro e w2 ⟨v, rfl, ho, hb⟩
 obtain ⟨L, hL⟩ : ∃ L, L = tx2 3 ++ [10] := ⟨_, rfl⟩
 rw [← hL] at ho
 have hlen : 0 < L.length := by rw [hL]; decide
 have HL := Lib.hid hL
 clear hL
 rcases ho.2 with ⟨_, h0⟩ | ⟨g, cp, cur, rfl, hh⟩
 ·omega
 ·have hcv := run_convert_bytes_back (P := Tryz.prog) w2 94 9 5 ⟨g, 0, none⟩ cp L Tryz.underlying94 Tryz.underlying5 Tryz.underlying9 (fun j hj => ho.cells (g := g) rfl j _ (by simp [Lib.byteCells, hj]))
  have HB := Lib.hid (((Below.refl w.heap.size w).alloc (Nat.le_refl _) (.cells #[.int .i64 23, .int .i64 2, .int .i64 1, .int .i64 2, .int .i64 1, .slice A 3 cap] 48)).trans (hb.mono (by simp)))
  clear ho hb hh
  go_wp2_with fail
  go_ret
  exact ⟨by rw [HL.out]; congr 2, HB.out⟩
end Tl
end Go.Proofs.YtgiojagdmglinaaGreatDoor
