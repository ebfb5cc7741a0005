/-
  Part 31 of a merged text.
-/
import Derived.Test.YtgiojagdmglinaaGreatDoorGb30
import Derived.Test.YtgiojagdmglinaaGreatDoorGb28
import Derived.OwnWalk
import Derived.WalkKit
set_option linter.unusedVariables false
set_option linter.unusedSimpArgs false
set_option maxRecDepth 100000
namespace Go.Proofs.YtgiojagdmglinaaGreatDoor
open Go.RowKit
namespace Tl
theorem Own.below {W W' : World} {B : Nat} {v : Value} {l : List UInt8} (h : Own W B v l) (hb : Below W.heap.size W W') : Own W' B v l := Kit.own_below h hb
def Kept (w w' : World) : Prop := w.heap.size ≤ w'.heap.size ∧ ∀ k, k < w.heap.size → (∀ cs m, w.heap[k]? ≠ some (.cells cs 5 m)) → w'.heap[k]? = w.heap[k]?
theorem Kept.trans {a b c : World} (h : Kept a b) (k : Kept b c) : Kept a c := ⟨Nat.le_trans h.1 k.1, fun i hi hn => by
 have e := h.2 i hi hn
 rw [k.2 i (Nat.lt_of_lt_of_le hi h.1) (fun cs m => by rw [e]; exact hn cs m), e]⟩
theorem Kept.below {a b : World} (h : Below a.heap.size a b) : Kept a b := ⟨h.size, fun i hi _ => h.block i hi⟩
theorem Kept.drew (a : World) : Kept a a.drew := ⟨Nat.le_refl _, fun _ _ _ => rfl⟩
theorem Kept.alloc (a : World) (o : Obj) : Kept a (a.alloc o) := Kept.below ((Below.refl _ _).alloc (Nat.le_refl _) o)
theorem Kept.own {w w' : World} {B : Nat} {v : Value} {l : List UInt8} (h : Own w B v l) (hg : w.grownBy w' v.ownBlock) : Kept w w' := ⟨hg.size, fun k hk hn => hg.block k hk (fun e => by
 rcases h.2 with ⟨rfl, _⟩ | ⟨g, cap, cur, rfl, _, hgg, _⟩
 ·simp [Value.ownBlock] at e
 ·have : k = g := by simpa [Value.ownBlock] using e
  subst this
  exact hn _ _ hgg)⟩
def Typed (w : World) (b : Nat) (t : TypeId) (L : List Value) : Prop := w.heap[b]? = some (.cells L.toArray t (0, 0))
theorem Typed.row {w : World} {b : Nat} {t : TypeId} {L : List Value} (h : Typed w b t L) : Kit.Row w b L := Kit.row_of h
theorem Typed.kept {w w' : World} {b : Nat} {t : TypeId} {L : List Value} (h : Typed w b t L) (ht : t ≠ 5) (hk : Kept w w') : Typed w' b t L := (hk.2 b h.row.lt (fun cs m => by
 rw [show w.heap[b]? = _ from h]
 intro e
 injection e with e
 injection e with _ e2 _
 exact ht e2)).trans h
theorem Typed.new (w : World) (cs : Array Value) (t : TypeId) : Typed (w.alloc (.cells cs t)) w.heap.size t cs.toList := heap_alloc_new w _
def Adds (W : World) (B : Nat) (l s : List UInt8) (e : Ending) (w' : World) : Prop := ∃ v', e = .returned v' ∧ Own w' B v' (l ++ s) ∧ Below B W w' ∧ Kept W w'
theorem own_str {w' : World} {B : Nat} {v' : Value} {l s : List UInt8} (ho : w'.ownsRow B 5 1 v' (l.length + (⟨s.toArray⟩ : ByteArray).size) (Lib.byteCells l ++ Lib.strCells ⟨s.toArray⟩)) : Own w' B v' (l ++ s) := by
 unfold Own
 have e1 : (l ++ s).length = l.length + (⟨s.toArray⟩ : ByteArray).size := by rw [List.length_append]; rfl
 have e2 : Lib.byteCells (l ++ s) = Lib.byteCells l ++ Lib.strCells ⟨s.toArray⟩ := by simp [Lib.byteCells, Lib.strCells]
 rw [e1, e2]
 exact ho
theorem own_one {w' : World} {B : Nat} {v' : Value} {l : List UInt8} {c : UInt8} (ho : w'.ownsRow B 5 1 v' (l.length + 1) (Lib.byteCells l ++ [.int .u8 c.toNat])) : Own w' B v' (l ++ [c]) := by
 unfold Own
 have e1 : (l ++ [c]).length = l.length + 1 := by simp
 have e2 : Lib.byteCells (l ++ [c]) = Lib.byteCells l ++ [.int .u8 c.toNat] := by simp [Lib.byteCells]
 rw [e1, e2]
 exact ho
theorem own_grown {W w' : World} {o : Obj} {B : Nat} {v : Value} {l : List UInt8} (h : Own W B v l) (hb : B ≤ W.heap.size) (hg : (W.alloc o).grownBy w' v.ownBlock) : Below B W w' := by
 have hb7 := Kit.own_base h
 exact ((Below.refl B W).alloc hb o).grown hg (by simp; omega) (fun q hq => hb7 q hq)
theorem own_grown' {W w' : World} {B : Nat} {v : Value} {l : List UInt8} (h : Own W B v l) (hb : B ≤ W.heap.size) (hg : W.grownBy w' v.ownBlock) : Below B W w' := by
 have hb7 := Kit.own_base h
 exact (Below.refl B W).grown hg hb (fun q hq => hb7 q hq)
set_option maxHeartbeats 1000000 in
theorem ui1_calls (B : Nat) (v : Value) (l : List UInt8) (w : World) (ho : Own w B v l) (hB : B ≤ w.heap.size) (hl : l.length ≤ 1000) : Calls Tryz.prog 121 #[v, .int .u64 1, .int .i64 10] w (Adds w B l [49]) := by
 obtain ⟨i0, hi, hz0, hz1, hz2⟩ := info_parts byteInfo
 have HO := Lib.hid ho
 have hlm : l.length + 2 ≤ maxLen := by unfold maxLen; omega
 clear ho
 go_enter Tryz.func121, Tryz.ntmps121
 go_wp2_with fail
 refine (small1_calls _).mono ?_
 rintro e w1 ⟨rfl, rfl⟩
 dsimp only
 iterate 1 (first | go_guarded | go_step | go_upon | go_back)
 refine Lib.wpList_append_own_string _ rfl (.tmp 13) (.tmp 16) 94 9 rfl B 5 i0 Tryz.underlying94 Tryz.underlying9 hi hz0 hz1 hz2 _ _ _ rfl HO.out ⟨#[49]⟩ rfl ?c1 ?c2 hB ?_
 case c1 => show l.length + 1 ≤ maxLen; omega
 case c2 => show l.length + 1 ≤ 140737488355328; omega
 intro v2 w2 hown hgrow _
 have A1 := Lib.hid (own_str (s := [49]) hown)
 have B1 := Lib.hid (own_grown' HO.out hB hgrow)
 have K1 := Lib.hid (Kept.own HO.out hgrow)
 clear hown hgrow
 go_wp2_with fail
 go_ret
 exact ⟨_, rfl, A1.out, B1.out, K1.out⟩
set_option maxHeartbeats 1000000 in
theorem ii1_calls (B : Nat) (v : Value) (l : List UInt8) (w : World) (ho : Own w B v l) (hB : B ≤ w.heap.size) (hl : l.length ≤ 1000) : Calls Tryz.prog 107 #[v, .int .i64 1, .int .i64 10] w (Adds w B l [49]) := by
 have k := ui1_calls B v l w ho hB hl
 have K := Lib.hid k
 clear k ho
 go_enter Tryz.func107, Tryz.ntmps107
 go_wp2_with fail
 refine K.out.mono ?_
 rintro e w1 ⟨v', rfl, ho, hb, hk⟩
 go_wp2_with fail
 go_ret
 exact ⟨_, rfl, ho, hb, hk⟩
set_option maxHeartbeats 1000000 in
theorem ai1_calls (B : Nat) (v : Value) (l : List UInt8) (w : World) (ho : Own w B v l) (hB : B ≤ w.heap.size) (hl : l.length ≤ 1000) : Calls Tryz.prog 82 #[v, .int .i64 1, .int .i64 10] w (Adds w B l [49]) := by
 have k := ii1_calls B v l w ho hB hl
 have K := Lib.hid k
 clear k ho
 go_enter Tryz.func82, Tryz.ntmps82
 go_wp2_with fail
 refine K.out.mono ?_
 rintro e w1 ⟨v', rfl, ho, hb, hk⟩
 go_wp2_with fail
 go_ret
 exact ⟨_, rfl, ho, hb, hk⟩
set_option maxHeartbeats 1000000 in
theorem ui2_calls (B : Nat) (v : Value) (l : List UInt8) (w : World) (ho : Own w B v l) (hB : B ≤ w.heap.size) (hl : l.length ≤ 1000) : Calls Tryz.prog 121 #[v, .int .u64 2, .int .i64 10] w (Adds w B l [50]) := by
 obtain ⟨i0, hi, hz0, hz1, hz2⟩ := info_parts byteInfo
 have HO := Lib.hid ho
 have hlm : l.length + 2 ≤ maxLen := by unfold maxLen; omega
 clear ho
 go_enter Tryz.func121, Tryz.ntmps121
 go_wp2_with fail
 refine (small2_calls _).mono ?_
 rintro e w1 ⟨rfl, rfl⟩
 dsimp only
 iterate 1 (first | go_guarded | go_step | go_upon | go_back)
 refine Lib.wpList_append_own_string _ rfl (.tmp 13) (.tmp 16) 94 9 rfl B 5 i0 Tryz.underlying94 Tryz.underlying9 hi hz0 hz1 hz2 _ _ _ rfl HO.out ⟨#[50]⟩ rfl ?c1 ?c2 hB ?_
 case c1 => show l.length + 1 ≤ maxLen; omega
 case c2 => show l.length + 1 ≤ 140737488355328; omega
 intro v2 w2 hown hgrow _
 have A1 := Lib.hid (own_str (s := [50]) hown)
 have B1 := Lib.hid (own_grown' HO.out hB hgrow)
 have K1 := Lib.hid (Kept.own HO.out hgrow)
 clear hown hgrow
 go_wp2_with fail
 go_ret
 exact ⟨_, rfl, A1.out, B1.out, K1.out⟩
set_option maxHeartbeats 1000000 in
theorem ii2_calls (B : Nat) (v : Value) (l : List UInt8) (w : World) (ho : Own w B v l) (hB : B ≤ w.heap.size) (hl : l.length ≤ 1000) : Calls Tryz.prog 107 #[v, .int .i64 2, .int .i64 10] w (Adds w B l [50]) := by
 have k := ui2_calls B v l w ho hB hl
 have K := Lib.hid k
 clear k ho
 go_enter Tryz.func107, Tryz.ntmps107
 go_wp2_with fail
 refine K.out.mono ?_
 rintro e w1 ⟨v', rfl, ho, hb, hk⟩
 go_wp2_with fail
 go_ret
 exact ⟨_, rfl, ho, hb, hk⟩
set_option maxHeartbeats 1000000 in
theorem ai2_calls (B : Nat) (v : Value) (l : List UInt8) (w : World) (ho : Own w B v l) (hB : B ≤ w.heap.size) (hl : l.length ≤ 1000) : Calls Tryz.prog 82 #[v, .int .i64 2, .int .i64 10] w (Adds w B l [50]) := by
 have k := ii2_calls B v l w ho hB hl
 have K := Lib.hid k
 clear k ho
 go_enter Tryz.func82, Tryz.ntmps82
 go_wp2_with fail
 refine K.out.mono ?_
 rintro e w1 ⟨v', rfl, ho, hb, hk⟩
 go_wp2_with fail
 go_ret
 exact ⟨_, rfl, ho, hb, hk⟩
set_option maxHeartbeats 1000000 in
theorem ui23_calls (B : Nat) (v : Value) (l : List UInt8) (w : World) (ho : Own w B v l) (hB : B ≤ w.heap.size) (hl : l.length ≤ 1000) : Calls Tryz.prog 121 #[v, .int .u64 23, .int .i64 10] w (Adds w B l [50, 51]) := by
 obtain ⟨i0, hi, hz0, hz1, hz2⟩ := info_parts byteInfo
 have HO := Lib.hid ho
 have hlm : l.length + 2 ≤ maxLen := by unfold maxLen; omega
 clear ho
 go_enter Tryz.func121, Tryz.ntmps121
 go_wp2_with fail
 refine (small23_calls _).mono ?_
 rintro e w1 ⟨rfl, rfl⟩
 dsimp only
 iterate 1 (first | go_guarded | go_step | go_upon | go_back)
 refine Lib.wpList_append_own_string _ rfl (.tmp 13) (.tmp 16) 94 9 rfl B 5 i0 Tryz.underlying94 Tryz.underlying9 hi hz0 hz1 hz2 _ _ _ rfl HO.out ⟨#[50, 51]⟩ rfl ?c1 ?c2 hB ?_
 case c1 => show l.length + 2 ≤ maxLen; omega
 case c2 => show l.length + 2 ≤ 140737488355328; omega
 intro v2 w2 hown hgrow _
 have A1 := Lib.hid (own_str (s := [50, 51]) hown)
 have B1 := Lib.hid (own_grown' HO.out hB hgrow)
 have K1 := Lib.hid (Kept.own HO.out hgrow)
 clear hown hgrow
 go_wp2_with fail
 go_ret
 exact ⟨_, rfl, A1.out, B1.out, K1.out⟩
set_option maxHeartbeats 1000000 in
theorem ii23_calls (B : Nat) (v : Value) (l : List UInt8) (w : World) (ho : Own w B v l) (hB : B ≤ w.heap.size) (hl : l.length ≤ 1000) : Calls Tryz.prog 107 #[v, .int .i64 23, .int .i64 10] w (Adds w B l [50, 51]) := by
 have k := ui23_calls B v l w ho hB hl
 have K := Lib.hid k
 clear k ho
 go_enter Tryz.func107, Tryz.ntmps107
 go_wp2_with fail
 refine K.out.mono ?_
 rintro e w1 ⟨v', rfl, ho, hb, hk⟩
 go_wp2_with fail
 go_ret
 exact ⟨_, rfl, ho, hb, hk⟩
set_option maxHeartbeats 1000000 in
theorem ai23_calls (B : Nat) (v : Value) (l : List UInt8) (w : World) (ho : Own w B v l) (hB : B ≤ w.heap.size) (hl : l.length ≤ 1000) : Calls Tryz.prog 82 #[v, .int .i64 23, .int .i64 10] w (Adds w B l [50, 51]) := by
 have k := ii23_calls B v l w ho hB hl
 have K := Lib.hid k
 clear k ho
 go_enter Tryz.func82, Tryz.ntmps82
 go_wp2_with fail
 refine K.out.mono ?_
 rintro e w1 ⟨v', rfl, ho, hb, hk⟩
 go_wp2_with fail
 go_ret
 exact ⟨_, rfl, ho, hb, hk⟩
set_option maxHeartbeats 1000000 in
theorem frame_calls (B : Nat) (v : Value) (l : List UInt8) (w : World) (ho : Own w B v l) (hB : B ≤ w.heap.size) (hl : l.length ≤ 500) : Calls Tryz.prog 83 #[v, .agg #[.int .i64 2, .int .i64 1]] w (Adds w B l [105, 49]) := by
 obtain ⟨i0, hi, hz0, hz1, hz2⟩ := info_parts byteInfo
 have H0 := Lib.hid ho
 clear ho
 go_enter Tryz.func83, Tryz.ntmps83
 go_wp2_with fail
 have HO : Hid (Own (w.alloc (.cells #[.int .i64 2, .int .i64 1] 45)) B v l) := Lib.hid (H0.out.alloc (.cells #[.int .i64 2, .int .i64 1] 45))
 have RF := Lib.hid (Typed.new w #[.int .i64 2, .int .i64 1] 45)
 have HB := Lib.hid ((Below.refl B w).alloc hB (.cells #[.int .i64 2, .int .i64 1] 45))
 have HK := Lib.hid (Kept.alloc w (.cells #[.int .i64 2, .int .i64 1] 45))
 clear H0
 generalize w.alloc (.cells #[.int .i64 2, .int .i64 1] 45) = w2 at *
 have f0 := RF.out.row.at_ 1 (.int .i64 1) rfl
 refine wp_region_held_drew (S := (fun w' => w'.cell? ⟨w.heap.size, 1, none⟩ = some (.int .i64 1))) (by kernel_rfl) ?_ (fun hHeld => ?_)
 ·go_keep
 refine Rgn.tk 0 rfl ?_
 try simp only [Act.put, Rgn.a, Rgn.b, Rgn.c]
 refine Rgn.tk 3 rfl ?_
 try simp only [Act.put, Rgn.a, Rgn.b, Rgn.c]
 refine Rgn.tk 4 rfl ?_
 try simp only [Act.put, Rgn.a, Rgn.b, Rgn.c]
 refine Rgn.one 1 rfl (by kernel_rfl) (fun K hK => ?_)
 go_simp
 have HN := Lib.hid (show ∀ j u, [Value.int .u8 105][j]? = some u → ((w2.alloc (.cells #[.int .u8 105] 5)).drew).cell? ((⟨w2.heap.size, 0, none⟩ : Addr).add j) = some u from cell_one_new w2 (.int .u8 105) 5)
 replace HO : Hid (Own (w2.alloc (.cells #[.int .u8 105] 5)).drew B _ _) := Lib.hid (HO.out.alloc (.cells #[.int .u8 105] 5)).drew
 have hka := (Kept.alloc w2 (.cells #[.int .u8 105] 5)).trans (Kept.drew _)
 replace RF := Lib.hid (RF.out.kept (by decide) hka)
 replace HK := Lib.hid (HK.out.trans hka)
 replace HB := Lib.hid (HB.out.alloc (by have := HB.out.size; omega) (.cells #[.int .u8 105] 5)).drew
 clear f0 hka
 generalize (w2.alloc (.cells #[.int .u8 105] 5)).drew = w3 at *
 have f0 := RF.out.row.at_ 1 (.int .i64 1) rfl
 refine hK.out _ _ ?_ (fun hHeld => ?_)
 ·first | go_keep | ((try dsimp only); (repeat' apply And.intro) <;> first | assumption | go_simp)
 clear hK K
 try simp only [Act.put, Rgn.a, Rgn.b, Rgn.c]
 refine Rgn.one 2 rfl (by kernel_rfl) (fun K hK => ?_)
 rw [if_pos (by kernel_rfl)]
 refine Sw.wp_append_at (.tmp 19) (.tmp 20) 94 rfl B 5 i0 (.int .u8 0) 1 1 Tryz.underlying94 hi hz0 hz1 hz2 rfl (by decide) _ _ _ rfl HO.out ⟨w2.heap.size, 0, none⟩ 1 1 [.int .u8 105] rfl rfl ?c1 ?c2 ?c3 ?c4 ?c5 ?_
 case c1 => exact HN.out
 case c2 => intro u hu; simp at hu; subst hu; rfl
 case c3 => unfold maxLen; omega
 case c4 => omega
 case c5 => have := HB.out.size; omega
 intro v4 w4 hown hgrow _
 have hb4 := own_grown' HO.out (by have := HB.out.size; omega) hgrow
 have hk4 := Kept.own HO.out hgrow
 replace HB := Lib.hid (HB.out.trans hb4)
 replace HK := Lib.hid (HK.out.trans hk4)
 replace RF := Lib.hid (RF.out.kept (by decide) hk4)
 replace HO := Lib.hid (own_one (c := 105) hown)
 clear f0 hown hgrow hb4 hk4 HN
 have f0 := RF.out.row.at_ 1 (.int .i64 1) rfl
 refine hK.out _ _ ?_ (fun hHeld => ?_)
 ·first | go_keep | ((try dsimp only); (repeat' apply And.intro) <;> first | assumption | go_simp)
 clear hK K
 try simp only [Act.put, Rgn.a, Rgn.b, Rgn.c]
 refine Rgn.one 5 rfl (by kernel_rfl) (fun K hK => ?_)
 go_simp
 refine (ai1_calls B v4 _ _ HO.out (by have := HB.out.size; omega) (by simp; omega)).mono ?_
 rintro e w5 ⟨v5, rfl, ho5, hb5, hk5⟩
 replace HB := Lib.hid (HB.out.trans hb5)
 replace HK := Lib.hid (HK.out.trans hk5)
 replace RF := Lib.hid (RF.out.kept (by decide) hk5)
 replace HO := Lib.hid ho5
 clear f0 ho5 hb5 hk5
 have f0 := RF.out.row.at_ 1 (.int .i64 1) rfl
 go_simp
 refine hK.out _ _ ?_ (fun hHeld => ?_)
 ·first | go_keep | ((try dsimp only); (repeat' apply And.intro) <;> first | assumption | go_simp)
 clear hK K
 try simp only [Act.put, Rgn.a, Rgn.b, Rgn.c]
 refine Rgn.tk 6 rfl ?_
 try simp only [Act.put, Rgn.a, Rgn.b, Rgn.c]
 refine wpAnyH_done (by kernel_rfl) ?_ _
 clear f0
 go_wp2_with fail
 go_ret
 exact ⟨_, rfl, (by simpa using HO.out), HB.out, HK.out⟩
set_option maxHeartbeats 1000000 in
theorem node_calls (B : Nat) (v : Value) (l : List UInt8) (i ct : Int) (w : World) (ho : Own w B v l) (hB : B ≤ w.heap.size) (hl : l.length ≤ 500) : Calls Tryz.prog 84 #[v, .agg #[.int .i64 i, .int .i64 3, .int .i64 ct, .int .i64 2]] w (Adds w B l [97, 50]) := by
 obtain ⟨i0, hi, hz0, hz1, hz2⟩ := info_parts byteInfo
 have H0 := Lib.hid ho
 clear ho
 go_enter Tryz.func84, Tryz.ntmps84
 go_wp2_with fail
 have HO : Hid (Own (w.alloc (.cells #[.int .i64 i, .int .i64 3, .int .i64 ct, .int .i64 2] 60)) B v l) := Lib.hid (H0.out.alloc (.cells #[.int .i64 i, .int .i64 3, .int .i64 ct, .int .i64 2] 60))
 have RF := Lib.hid (Typed.new w #[.int .i64 i, .int .i64 3, .int .i64 ct, .int .i64 2] 60)
 have HB := Lib.hid ((Below.refl B w).alloc hB (.cells #[.int .i64 i, .int .i64 3, .int .i64 ct, .int .i64 2] 60))
 have HK := Lib.hid (Kept.alloc w (.cells #[.int .i64 i, .int .i64 3, .int .i64 ct, .int .i64 2] 60))
 clear H0
 generalize w.alloc (.cells #[.int .i64 i, .int .i64 3, .int .i64 ct, .int .i64 2] 60) = w2 at *
 have f0 := RF.out.row.at_ 3 (.int .i64 2) rfl
 refine wp_region_held_drew (S := (fun w' => w'.cell? ⟨w.heap.size, 3, none⟩ = some (.int .i64 2))) (by kernel_rfl) ?_ (fun hHeld => ?_)
 ·go_keep
 refine Rgn.tk 0 rfl ?_
 try simp only [Act.put, Rgn.a, Rgn.b, Rgn.c]
 refine Rgn.tk 3 rfl ?_
 try simp only [Act.put, Rgn.a, Rgn.b, Rgn.c]
 refine Rgn.tk 4 rfl ?_
 try simp only [Act.put, Rgn.a, Rgn.b, Rgn.c]
 refine Rgn.one 1 rfl (by kernel_rfl) (fun K hK => ?_)
 go_simp
 have HN := Lib.hid (show ∀ j u, [Value.int .u8 97][j]? = some u → ((w2.alloc (.cells #[.int .u8 97] 5)).drew).cell? ((⟨w2.heap.size, 0, none⟩ : Addr).add j) = some u from cell_one_new w2 (.int .u8 97) 5)
 replace HO : Hid (Own (w2.alloc (.cells #[.int .u8 97] 5)).drew B _ _) := Lib.hid (HO.out.alloc (.cells #[.int .u8 97] 5)).drew
 have hka := (Kept.alloc w2 (.cells #[.int .u8 97] 5)).trans (Kept.drew _)
 replace RF := Lib.hid (RF.out.kept (by decide) hka)
 replace HK := Lib.hid (HK.out.trans hka)
 replace HB := Lib.hid (HB.out.alloc (by have := HB.out.size; omega) (.cells #[.int .u8 97] 5)).drew
 clear f0 hka
 generalize (w2.alloc (.cells #[.int .u8 97] 5)).drew = w3 at *
 have f0 := RF.out.row.at_ 3 (.int .i64 2) rfl
 refine hK.out _ _ ?_ (fun hHeld => ?_)
 ·first | go_keep | ((try dsimp only); (repeat' apply And.intro) <;> first | assumption | go_simp)
 clear hK K
 try simp only [Act.put, Rgn.a, Rgn.b, Rgn.c]
 refine Rgn.one 2 rfl (by kernel_rfl) (fun K hK => ?_)
 rw [if_pos (by kernel_rfl)]
 refine Sw.wp_append_at (.tmp 8) (.tmp 9) 94 rfl B 5 i0 (.int .u8 0) 1 1 Tryz.underlying94 hi hz0 hz1 hz2 rfl (by decide) _ _ _ rfl HO.out ⟨w2.heap.size, 0, none⟩ 1 1 [.int .u8 97] rfl rfl ?c1 ?c2 ?c3 ?c4 ?c5 ?_
 case c1 => exact HN.out
 case c2 => intro u hu; simp at hu; subst hu; rfl
 case c3 => unfold maxLen; omega
 case c4 => omega
 case c5 => have := HB.out.size; omega
 intro v4 w4 hown hgrow _
 have hb4 := own_grown' HO.out (by have := HB.out.size; omega) hgrow
 have hk4 := Kept.own HO.out hgrow
 replace HB := Lib.hid (HB.out.trans hb4)
 replace HK := Lib.hid (HK.out.trans hk4)
 replace RF := Lib.hid (RF.out.kept (by decide) hk4)
 replace HO := Lib.hid (own_one (c := 97) hown)
 clear f0 hown hgrow hb4 hk4 HN
 have f0 := RF.out.row.at_ 3 (.int .i64 2) rfl
 refine hK.out _ _ ?_ (fun hHeld => ?_)
 ·first | go_keep | ((try dsimp only); (repeat' apply And.intro) <;> first | assumption | go_simp)
 clear hK K
 try simp only [Act.put, Rgn.a, Rgn.b, Rgn.c]
 refine Rgn.one 5 rfl (by kernel_rfl) (fun K hK => ?_)
 go_simp
 refine (ai2_calls B v4 _ _ HO.out (by have := HB.out.size; omega) (by simp; omega)).mono ?_
 rintro e w5 ⟨v5, rfl, ho5, hb5, hk5⟩
 replace HB := Lib.hid (HB.out.trans hb5)
 replace HK := Lib.hid (HK.out.trans hk5)
 replace RF := Lib.hid (RF.out.kept (by decide) hk5)
 replace HO := Lib.hid ho5
 clear f0 ho5 hb5 hk5
 have f0 := RF.out.row.at_ 3 (.int .i64 2) rfl
 go_simp
 refine hK.out _ _ ?_ (fun hHeld => ?_)
 ·first | go_keep | ((try dsimp only); (repeat' apply And.intro) <;> first | assumption | go_simp)
 clear hK K
 try simp only [Act.put, Rgn.a, Rgn.b, Rgn.c]
 refine Rgn.tk 6 rfl ?_
 try simp only [Act.put, Rgn.a, Rgn.b, Rgn.c]
 refine wpAnyH_done (by kernel_rfl) ?_ _
 clear f0
 go_wp2_with fail
 go_ret
 exact ⟨_, rfl, (by simpa using HO.out), HB.out, HK.out⟩
end Tl
end Go.Proofs.YtgiojagdmglinaaGreatDoor
