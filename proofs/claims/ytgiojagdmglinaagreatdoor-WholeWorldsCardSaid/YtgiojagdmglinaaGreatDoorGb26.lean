/-
  Part 26 of a merged text.
-/
import Derived.Test.YtgiojagdmglinaaGreatDoorGb11
import Derived.Test.YtgiojagdmglinaaGreatDoorGb22
import Derived.Laws.CopyOwn
import Derived.Deep.Cut
import Derived.Test.YtgiojagdmglinaaGreatDoorGb25
import Derived.Test.YtgiojagdmglinaaGreatDoorGb08
import Derived.Great.Walk
set_option linter.unusedVariables false
set_option linter.unusedSimpArgs false
set_option maxRecDepth 100000
namespace Go.Proofs.YtgiojagdmglinaaGreatDoor
open Go.RowKit Vote
theorem Kit.row_of {w : World} {g : Nat} {L : List Value} {t : TypeId} (h : w.heap[g]? = some (.cells L.toArray t (0, 0))) : Kit.Row w g L where
 lt := (Array.getElem?_eq_some_iff.1 h).1
 at_ := fun o v ho => by simp [World.cell?, h, ho]
 free := fun o ho => by simp [World.frozen?, h]
namespace Pc
def clean (n : Nat) (l : List Int) : List Int := (List.range n).map fun i => Tal.clamp (l.getD i 0) 0 2000
def mid (n : Nat) (l : List Int) (k : Nat) : List Int := (List.range n).map fun i => if i < k then Tal.clamp (l.getD i 0) 0 2000 else l.getD i 0
theorem mid_len (n : Nat) (l : List Int) (k : Nat) : (mid n l k).length = n := by simp [mid]
theorem mid_at (n : Nat) (l : List Int) (k : Nat) (hk : k < n) : (mid n l k).getD k 0 = l.getD k 0 := by simp [mid, hk]
theorem mid_all (n : Nat) (l : List Int) : mid n l n = clean n l := by
 unfold mid clean
 apply List.map_congr_left
 intro i hi
 rw [if_pos (List.mem_range.1 hi)]
theorem mid_succ (n : Nat) (l : List Int) (k : Nat) (hk : k < n) : mid n l (k + 1) = (mid n l k).set k (Tal.clamp (l.getD k 0) 0 2000) := by
 apply List.ext_getElem?; intro i
 rw [List.getElem?_set]
 by_cases hi : k = i
 ·subst hi
  rw [if_pos rfl]
  simp [mid, hk]
 ·rw [if_neg hi]
  by_cases hj : i < n
  ·simp only [mid, List.getElem?_map, List.getElem?_range hj, Option.map_some]
   by_cases hk2 : i < k
   ·rw [if_pos hk2, if_pos (by omega)]
   ·rw [if_neg hk2, if_neg (by omega)]
  ·rw [List.getElem?_eq_none (by rw [mid_len]; omega), List.getElem?_eq_none (by rw [mid_len]; omega)]
theorem spliced (n m : Nat) (l : List Int) (hl : l.length = m) : splice (madeCells #[Value.int .i64 0] n).toList 0 (ints (l.take n)) = ints (mid n l 0) := by
 have hz : (madeCells #[Value.int .i64 0] n).toList = List.replicate n (Value.int .i64 0) := by
  apply List.ext_getElem?; intro j
  by_cases hj : j < n
  ·rw [List.getElem?_replicate, if_pos hj]
   simp [madeCells, hj, Nat.mod_one]
  ·rw [List.getElem?_eq_none (by simp [madeCells]; omega), List.getElem?_eq_none (by simp; omega)]
 rw [hz]
 unfold splice ints mid
 apply List.ext_getElem?; intro j
 simp only [List.take_zero, List.nil_append, Nat.zero_add, List.length_map, List.length_take, List.drop_replicate, Nat.not_lt_zero, if_false, List.map_map]
 rw [List.getElem?_append]
 by_cases hj : j < n
 ·rw [List.getElem?_map (l := List.range n), List.getElem?_range hj]
  simp only [List.length_map, List.length_take]
  by_cases hjl : j < min n l.length
  ·rw [if_pos hjl]
   simp only [Nat.lt_min] at hjl
   simp [List.getElem?_take, hj, List.getD_eq_getElem?_getD, List.getElem?_eq_getElem hjl.2]
  ·rw [if_neg hjl]
   have h1 : l.length ≤ j := by simp only [Nat.lt_min] at hjl; omega
   rw [List.getElem?_replicate, if_pos (by omega)]
   simp [List.getD_eq_getElem?_getD, List.getElem?_eq_none h1]
 ·rw [if_neg (by simp; omega), List.getElem?_eq_none (by simp; omega), List.getElem?_eq_none (by simp; omega)]
theorem sizeInt : (Tryz.prog.info? 3).map (·.size) = some 1 := by kernel_rfl
set_option maxHeartbeats 1500000 in
theorem clean_calls (n m cap : Nat) (A : Option Addr) (l : List Int) (w : World) (h3 : 3 ≤ n) (h8 : n ≤ 8) (hl : Whole w A m l) :
  Calls Tryz.prog 56 #[.int .i64 n, .slice A m cap] w fun e w' => e = .returned (.tuple #[.slice (some ⟨w.heap.size, 0, none⟩) n n, .int .i64 0]) ∧ Kit.Row w' w.heap.size (ints (clean n l)) ∧ Below w.heap.size w w' := by
 have hmk := fun W => run_make_row' (P := Tryz.prog) 22 3 (.int .i64 0) 8 Tryz.underlying22 infoInt rfl .i64 .i64 n (by omega) (by omega) W
 have kr := fun W => Cf.right_calls (n : Int) W (by omega) (by omega)
 have KR := Lib.hid kr
 have HL := Lib.hid hl
 have hll := hl.len
 clear kr hl
 go_enter Tryz.func56, Tryz.ntmps56
 go_wp2_with fail
 refine (KR.out _).mono ?_
 rintro e w1 ⟨rfl, rfl⟩
 go_upto_region 4 with fail
 clear hmk
 iterate 7 (first | go_guarded | go_step | go_upon | go_back)
 refine wpList_copy_splice rfl (.tmp 13) (.tmp 14) 22 22 rfl 3 Tryz.underlying22 sizeInt _ _ _ _ _ _ rfl rfl w.heap.size 0 (madeCells #[Value.int .i64 0] n).toList 3 ?c1 (ints (l.take n)) ?c2 ?c3 ?c4 ?c5 w.heap.size w ?c6 (Nat.le_refl _) ?_
 case c1 => rw [heap_alloc_new]
 case c2 => rw [ints_len, List.length_take, hll]; simp [Nat.min_comm]
 case c3 =>
  intro hp
  rw [ints_len, List.length_take] at hp
  refine ⟨rfl, ?_⟩
  obtain ⟨b, off, e, hb, hc⟩ := HL.out.at_ (q := 0) (by omega)
  refine ⟨⟨b, off, none⟩, e, fun j v hj => ?_⟩
  have hjl : j < l.length ∧ j < n := by
   have := (List.getElem?_eq_some_iff.1 hj).1
   rw [ints_len, List.length_take] at this
   omega
  obtain ⟨b', off', e', hb', hc'⟩ := HL.out.at_ (q := j) (by omega)
  rw [e] at e'
  injection e' with e'
  injection e' with e1 e2 _
  subst e1 e2
  rw [show v = .int .i64 (l.getD j 0) from by
   unfold ints at hj
   rw [List.getElem?_map, List.getElem?_take, if_pos hjl.2, List.getElem?_eq_getElem hjl.1] at hj
   rw [List.getD_eq_getElem?_getD, List.getElem?_eq_getElem hjl.1]
   injection hj with hj
   exact hj.symm]
  have := ((Below.refl w.heap.size w).alloc (Nat.le_refl _) (.cells (madeCells #[Value.int .i64 0] n) 3)).cell (p := ⟨b, off + j, none⟩) hb'
  rw [show (⟨b, off, none⟩ : Addr).add j = ⟨b, off + j, none⟩ from by simp [Addr.add]]
  exact this.trans hc'
 case c4 => rw [ints_len, List.length_take]; simp [madeCells]; omega
 case c5 => intro v hv; unfold ints at hv; obtain ⟨y, _, rfl⟩ := List.mem_map.1 hv; rfl
 case c6 => exact (Below.refl _ _).alloc (Nat.le_refl _) _
 intro w2 hg hb
 rw [spliced n m l hll] at hg
 have R0 := Lib.hid (Kit.row_of hg.out)
 have B0 := Lib.hid hb
 clear hg hb
 go_wp2_with fail
 go_loopw [7, 18] (fun _ vi wr => ∃ k : Nat, k ≤ n ∧ vi = .int .i64 k ∧ Hid (Kit.Row wr w.heap.size (ints (mid n l k))) ∧ Hid (Below w.heap.size w wr)) (fun _ vi _ => n - (intOf vi).toNat)
 case atStart => exact ⟨0, by omega, rfl, R0, B0⟩
 case round =>
  clear R0 B0
  obtain ⟨k, hk, rfl, R, HB⟩ := hrel
  by_cases hlt : k < n
  ·have c := R.out.at_ k _ (ints_at (mid n l k) k (by rw [mid_len]; exact hlt))
   have z := R.out.free k (by rw [ints_len, mid_len]; exact hlt)
   have hw := R.out.lt
   rw [mid_at n l k hlt] at c
   have kc := fun W => Tal.clamp_calls (l.getD k 0) 0 2000 W
   have R1 := Lib.hid ((R.out.set k (.int .i64 (Tal.clamp (l.getD k 0) 0 2000)) (by rw [ints_len, mid_len]; exact hlt)).cast (by rw [ints_set, ← mid_succ n l k hlt]))
   have B1 : Hid (Below w.heap.size w (wr.setCell ⟨w.heap.size, k, none⟩ (.int .i64 (Tal.clamp (l.getD k 0) 0 2000)))) := Lib.hid (HB.out.setCell (Nat.le_refl _) _)
   have KC := Lib.hid kc
   clear kc
   generalize l.getD k 0 = y at *
   generalize Tal.clamp y 0 2000 = z2 at *
   go_wp2_with fail
   refine (KC.out _).mono ?_
   rintro e wm ⟨rfl, rfl⟩
   go_wp2_with fail
   go_roundw
   case rel => exact ⟨k + 1, by omega, by go_num, R1, B1⟩
   case measure => simp [intOf]; omega
  ·obtain rfl : k = n := by omega
   go_wp2_with fail
   go_ret2
   exact ⟨rfl, by rw [← mid_all]; exact R.out, HB.out⟩
end Pc
end Go.Proofs.YtgiojagdmglinaaGreatDoor
namespace Go.Proofs.YtgiojagdmglinaaGreatDoor
open Go.RowKit Vote
structure Sc where
 n : Int
 pa : Option Addr
 pn : Nat
 pc : Nat
 power : List Int
 c : Int
 v : Int
 ld : Bool
 na : Option Addr
 nn : Nat
 nc : Nat
 nodes : List Nd
 h0 : Hb
 h1 : Hb
 ta : Option Addr
 tn : Nat
 tc : Nat
 ticks : List Ch
namespace Nw
def mid (n : Nat) (f : Nat → Nd) (l : List Nd) (k : Nat) : List Nd := (List.range n).map fun i => if i < k then f i else ndAt l i
theorem mid_len (n : Nat) (f : Nat → Nd) (l : List Nd) (k : Nat) : (mid n f l k).length = n := by simp [mid]
theorem mid_all (n : Nat) (f : Nat → Nd) (l : List Nd) : mid n f l n = (List.range n).map f := by
 unfold mid
 apply List.map_congr_left
 intro i hi
 rw [if_pos (List.mem_range.1 hi)]
theorem mid_zero (n : Nat) (f : Nat → Nd) (l : List Nd) (hl : l.length = n) : mid n f l 0 = l := by
 apply List.ext_getElem?; intro j
 unfold mid
 rw [List.getElem?_map]
 by_cases hj : j < n
 ·rw [List.getElem?_range hj, List.getElem?_eq_getElem (by omega)]
  unfold ndAt
  simp [List.getD_eq_getElem?_getD, List.getElem?_eq_getElem (show j < l.length by omega)]
 ·rw [List.getElem?_eq_none (by simp; omega), List.getElem?_eq_none (by omega)]
  rfl
theorem mid_at (n : Nat) (f : Nat → Nd) (l : List Nd) (k : Nat) (hk : k < n) : (mid n f l k)[k]? = some (ndAt l k) := by simp [mid, hk]
theorem mid_succ (n : Nat) (f : Nat → Nd) (l : List Nd) (k : Nat) (hk : k < n) : mid n f l (k + 1) = (mid n f l k).set k (f k) := by
 apply List.ext_getElem?; intro i
 rw [List.getElem?_set]
 by_cases hi : k = i
 ·subst hi
  rw [if_pos rfl]
  simp [mid, hk]
 ·rw [if_neg hi]
  by_cases hj : i < n
  ·simp only [mid, List.getElem?_map, List.getElem?_range hj, Option.map_some]
   by_cases hk2 : i < k
   ·rw [if_pos hk2, if_pos (by omega)]
   ·rw [if_neg hk2, if_neg (by omega)]
  ·rw [List.getElem?_eq_none (by rw [mid_len]; omega), List.getElem?_eq_none (by rw [mid_len]; omega)]
def off (i : Nat) : Nd := ⟨i, 0, 0, 0⟩
end Nw
end Go.Proofs.YtgiojagdmglinaaGreatDoor
namespace Go.Proofs.YtgiojagdmglinaaGreatDoor
open Go.RowKit
namespace Vote
def all_ (_ m : Int) : Int := m
set_option maxHeartbeats 2000000 in
theorem fresh_calls (n : Nat) (w : World) (h3 : 3 ≤ n) (h8 : n ≤ 8) :
  Calls Tryz.prog 57 #[.int .i64 n] w fun e w' => e = .returned (.tuple #[(Wm.fresh n).val, .int .i64 0]) ∧ Below w.heap.size w w' := by
 have kr := fun W => Cf.right_calls (n : Int) W (by omega) (by omega)
 have kf := fun W => fields_calls n w.heap.size W h3 h8
 have KR := Lib.hid kr
 have KF := Lib.hid kf
 clear kr kf h3 h8
 go_enter Tryz.func57, Tryz.ntmps57
 go_wp2_with fail
 refine (KR.out _).mono ?_
 rintro e w1 ⟨rfl, rfl⟩
 have q0 : Kit.Row (w.alloc (.cells #[.int .i64 0, .int .i64 0, .int .i64 0, .int .i64 0, .int .i64 0, .int .i64 0, .int .i64 0, .int .i64 0, .int .i64 0, .int .i64 0, .int .i64 0, .int .i64 0] 28)) w.heap.size (ints [0, 0, 0, 0, 0, 0, 0, 0, 0, 0, 0, 0]) := Kit.Row.new w _ _
 have qb := Kit.alloc1 w #[.int .i64 0, .int .i64 0, .int .i64 0, .int .i64 0, .int .i64 0, .int .i64 0, .int .i64 0, .int .i64 0, .int .i64 0, .int .i64 0, .int .i64 0, .int .i64 0] 28
 generalize w.alloc (.cells #[.int .i64 0, .int .i64 0, .int .i64 0, .int .i64 0, .int .i64 0, .int .i64 0, .int .i64 0, .int .i64 0, .int .i64 0, .int .i64 0, .int .i64 0, .int .i64 0] 28) = w2 at *
 go_wp2_with fail
 refine (KF.out _).mono ?_
 rintro e w4 ⟨v, rfl, hown, b4⟩
 obtain ⟨g, cap, rfl, hg, rg⟩ := own_row hown
 have hg1 : w.heap.size < g := Nat.lt_of_lt_of_le q0.lt hg
 have R0 := q0.below b4
 have RG := Lib.hid rg
 have HB := Lib.hid (qb.trans (b4.mono qb.size))
 clear q0 qb hown b4 hg rg
 go_wp2_with fail
 go_loopw [5, 13] (fun _ vi wr => ∃ k : Nat, k ≤ 10 ∧ vi = .int .i64 k ∧ Kit.Row wr w.heap.size (ints (upd all_ n [0, 0, 0, 0, 0, 0, 0, 0, 0, 0, 0, 0] k)) ∧ Hid (Kit.Row wr g (fcells w.heap.size n 10)) ∧ Hid (Below w.heap.size w wr)) (fun _ vi _ => 10 - (intOf vi).toNat)
 case atStart => exact ⟨0, by omega, rfl, R0, RG, HB⟩
 case round =>
  clear R0 RG HB
  obtain ⟨k, hk, rfl, R0, RG, HB⟩ := hrel
  by_cases hlt : k < 10
  ·have m0 := (Row.field RG.out hlt).1
   have m1 := (Row.field RG.out hlt).2
   have hord : ord k < (upd all_ n [0, 0, 0, 0, 0, 0, 0, 0, 0, 0, 0, 0] k).length := by rw [upd_len]; exact ord_lt hlt
   have c0 := R0.at_ _ _ (ints_at (upd all_ n [0, 0, 0, 0, 0, 0, 0, 0, 0, 0, 0, 0] k) (ord k) hord)
   have f0 := R0.free (ord k) (by rw [ints_len]; exact hord)
   have hcur := upd_cur all_ n [0, 0, 0, 0, 0, 0, 0, 0, 0, 0, 0, 0] k hlt
   have hset : (ints (upd all_ n [0, 0, 0, 0, 0, 0, 0, 0, 0, 0, 0, 0] k)).set (ord k) (.int .i64 (all_ ((upd all_ n [0, 0, 0, 0, 0, 0, 0, 0, 0, 0, 0, 0] k).getD (ord k) 0) (ms n k))) = ints (upd all_ n [0, 0, 0, 0, 0, 0, 0, 0, 0, 0, 0, 0] (k + 1)) := by rw [ints_set]; rfl
   have HSET := Lib.hid hset
   have HO : Hid (ord k < (ints (upd all_ n [0, 0, 0, 0, 0, 0, 0, 0, 0, 0, 0, 0] k)).length) := Lib.hid (by rw [ints_len]; exact hord)
   have lb := R0.lt
   have lg := RG.out.lt
   have RH := Lib.hid R0
   clear hset hord R0
   clear hcur
   generalize (upd all_ n [0, 0, 0, 0, 0, 0, 0, 0, 0, 0, 0, 0] k).getD (ord k) 0 = v at *
   have hne : ¬ w.heap.size = g := by omega
   go_wp2_with fail
   go_roundw
   case rel => exact ⟨k + 1, by omega, by go_num, ((RH.out.set (ord k) (.int .i64 (all_ v (ms n k))) HO.out).cast HSET.out).alloc (.cells #[.pointer (some ⟨w.heap.size, ord k, none⟩), .int .i64 (ms n k)] 133), Lib.hid ((RG.out.far _ _ _ (by omega)).alloc (.cells #[.pointer (some ⟨w.heap.size, ord k, none⟩), .int .i64 (ms n k)] 133)), Lib.hid ((HB.out.setCell (p := ⟨w.heap.size, ord k, none⟩) (by simp) _).alloc (by have := HB.out.size; simp; omega) (.cells #[.pointer (some ⟨w.heap.size, ord k, none⟩), .int .i64 (ms n k)] 133))⟩
   case measure => simp [intOf]; omega
  ·obtain rfl : k = 10 := by omega
   have r0 := R0
   rw [upd_all] at r0
   have p10 := r0.at_ 10 (.int .i64 (2 * n)) rfl
   have r5 := r0.set 10 (.int .i64 0) (by simp [ints])
   have c0 := r5.at_ 0 (.int .i64 (Wm.most n 0)) rfl
   have f0 := r0.free 0 (by simp [ints])
   have c1 := r5.at_ 1 (.int .i64 (Wm.most n 1)) rfl
   have f1 := r0.free 1 (by simp [ints])
   have c2 := r5.at_ 2 (.int .i64 (Wm.most n 2)) rfl
   have f2 := r0.free 2 (by simp [ints])
   have c3 := r5.at_ 3 (.int .i64 (Wm.most n 3)) rfl
   have f3 := r0.free 3 (by simp [ints])
   have c4 := r5.at_ 4 (.int .i64 (Wm.most n 4)) rfl
   have f4 := r0.free 4 (by simp [ints])
   have c5 := r5.at_ 5 (.int .i64 (Wm.most n 5)) rfl
   have f5 := r0.free 5 (by simp [ints])
   have c6 := r5.at_ 6 (.int .i64 (Wm.most n 6)) rfl
   have f6 := r0.free 6 (by simp [ints])
   have c7 := r5.at_ 7 (.int .i64 (Wm.most n 7)) rfl
   have f7 := r0.free 7 (by simp [ints])
   have c8 := r5.at_ 8 (.int .i64 0) rfl
   have f8 := r0.free 8 (by simp [ints])
   have c9 := r5.at_ 9 (.int .i64 (2 * n + 1)) rfl
   have f9 := r0.free 9 (by simp [ints])
   have c10 := r5.at_ 10 (.int .i64 0) rfl
   have f10 := r0.free 10 (by simp [ints])
   have c11 := r5.at_ 11 (.int .i64 0) rfl
   have f11 := r0.free 11 (by simp [ints])
   have hlt := r0.lt
   go_wp2_with fail
   have r6 := ((((((((((((r5.set 0 (.int .i64 (Wm.most n 0)) (by simp [ints])).set 1 (.int .i64 (Wm.most n 1)) (by simp [ints])).set 2 (.int .i64 (Wm.most n 2)) (by simp [ints])).set 3 (.int .i64 (Wm.most n 3)) (by simp [ints])).set 4 (.int .i64 (Wm.most n 4)) (by simp [ints])).set 5 (.int .i64 (Wm.most n 5)) (by simp [ints])).set 6 (.int .i64 (Wm.most n 6)) (by simp [ints])).set 7 (.int .i64 (Wm.most n 7)) (by simp [ints])).set 8 (.int .i64 0) (by simp [ints])).set 9 (.int .i64 (2 * n + 1)) (by simp [ints])).set 10 (.int .i64 0) (by simp [ints])).set 11 (.int .i64 0) (by simp [ints]))
   have k0 := r6.at_ 0 (.int .i64 (Wm.most n 0)) rfl
   have k1 := r6.at_ 1 (.int .i64 (Wm.most n 1)) rfl
   have k2 := r6.at_ 2 (.int .i64 (Wm.most n 2)) rfl
   have k3 := r6.at_ 3 (.int .i64 (Wm.most n 3)) rfl
   have k4 := r6.at_ 4 (.int .i64 (Wm.most n 4)) rfl
   have k5 := r6.at_ 5 (.int .i64 (Wm.most n 5)) rfl
   have k6 := r6.at_ 6 (.int .i64 (Wm.most n 6)) rfl
   have k7 := r6.at_ 7 (.int .i64 (Wm.most n 7)) rfl
   have k8 := r6.at_ 8 (.int .i64 0) rfl
   have k9 := r6.at_ 9 (.int .i64 (2 * n + 1)) rfl
   have k10 := r6.at_ 10 (.int .i64 0) rfl
   have k11 := r6.at_ 11 (.int .i64 0) rfl
   clear r6
   refine bodyPost_ret (v := .tuple #[.agg #[.int .i64 (Wm.most n 0), .int .i64 (Wm.most n 1), .int .i64 (Wm.most n 2), .int .i64 (Wm.most n 3), .int .i64 (Wm.most n 4), .int .i64 (Wm.most n 5), .int .i64 (Wm.most n 6), .int .i64 (Wm.most n 7), .int .i64 0, .int .i64 (2 * n + 1), .int .i64 0, .int .i64 0], .int .i64 0]) (by simp [results, Tryz.results57, go_sem, k0, k1, k2, k3, k4, k5, k6, k7, k8, k9, k10, k11, hlt]) rfl ⟨rfl, ?_⟩
   repeat' (first | (with_reducible exact HB.out) | (with_reducible refine Below.setCell ?_ ?_ _) | (with_reducible refine Below.alloc ?_ ?_ _) | (with_reducible refine Below.drew ?_))
   all_goals (first | omega | (simp; done) | (simp; omega))
end Vote
end Go.Proofs.YtgiojagdmglinaaGreatDoor
namespace Go.Proofs.YtgiojagdmglinaaGreatDoor
open Go.RowKit Vote
namespace Nw
set_option maxHeartbeats 1500000 in
theorem fresh_calls (base D G n : Nat) (c v : Int) (s : Sc) (w : World) (h3 : 3 ≤ n) (h8 : n ≤ 8) (hD : base ≤ D) (hG : base ≤ G) (hne : D ≠ G) (hDw : Kit.Row w D [.int .i64 n, .int .i64 0, .int .i64 c, .int .i64 v, .slice none 0 0, .slice (some ⟨G, 0, none⟩) n n, .int .i64 0, .int .i64 0, .int .i64 0, .int .i64 0, .int .i64 0, .int .i64 0, .int .i64 0, .int .i64 0, .int .i64 0, .int .i64 0, .int .i64 0, .int .i64 0, .int .i64 0, .int .i64 0, .int .i64 0, .int .i64 0, .int .i64 0, .int .i64 0, .int .i64 0, .int .i64 0, .int .i64 0, .int .i64 0, .int .i64 0, .int .i64 0]) (hGw : Kit.Row w G (Cl.cells (List.replicate n Nd.zero)))
  (hp : ∀ W, Below base w W → Whole W s.pa s.pn s.power) :
  Calls Tryz.prog 31 #[.agg #[.int .i64 s.n, .slice s.pa s.pn s.pc, .int .i64 s.c, .int .i64 s.v, .bool s.ld, .slice s.na s.nn s.nc, .int .i64 (s.h0.ag 0), .int .i64 (s.h0.ag 1), .int .i64 (s.h0.ag 2), .int .i64 (s.h0.ag 3), .int .i64 (s.h0.ag 4), .int .i64 (s.h0.ag 5), .int .i64 (s.h0.ag 6), .int .i64 (s.h0.ag 7), .int .i64 s.h0.port, .int .i64 s.h0.age, .int .i64 s.h0.hold, .int .i64 s.h0.pos, .int .i64 (s.h1.ag 0), .int .i64 (s.h1.ag 1), .int .i64 (s.h1.ag 2), .int .i64 (s.h1.ag 3), .int .i64 (s.h1.ag 4), .int .i64 (s.h1.ag 5), .int .i64 (s.h1.ag 6), .int .i64 (s.h1.ag 7), .int .i64 s.h1.port, .int .i64 s.h1.age, .int .i64 s.h1.hold, .int .i64 s.h1.pos, .slice s.ta s.tn s.tc], .pointer (some ⟨D, 0, none⟩)] w
   fun e w' => e = .returned (.tuple #[]) ∧ ∃ p, Kit.Row w' D [.int .i64 n, .int .i64 0, .int .i64 c, .int .i64 v, .slice (some ⟨p, 0, none⟩) n n, .slice (some ⟨G, 0, none⟩) n n, .int .i64 ((Wm.fresh n).ag 0), .int .i64 ((Wm.fresh n).ag 1), .int .i64 ((Wm.fresh n).ag 2), .int .i64 ((Wm.fresh n).ag 3), .int .i64 ((Wm.fresh n).ag 4), .int .i64 ((Wm.fresh n).ag 5), .int .i64 ((Wm.fresh n).ag 6), .int .i64 ((Wm.fresh n).ag 7), .int .i64 ((Wm.fresh n).port), .int .i64 ((Wm.fresh n).age), .int .i64 ((Wm.fresh n).hold), .int .i64 ((Wm.fresh n).pos), .int .i64 ((Wm.fresh n).ag 0), .int .i64 ((Wm.fresh n).ag 1), .int .i64 ((Wm.fresh n).ag 2), .int .i64 ((Wm.fresh n).ag 3), .int .i64 ((Wm.fresh n).ag 4), .int .i64 ((Wm.fresh n).ag 5), .int .i64 ((Wm.fresh n).ag 6), .int .i64 ((Wm.fresh n).ag 7), .int .i64 ((Wm.fresh n).port), .int .i64 ((Wm.fresh n).age), .int .i64 ((Wm.fresh n).hold), .int .i64 ((Wm.fresh n).pos)] ∧ Kit.Row w' G (Cl.cells ((List.range n).map off)) ∧ w.heap.size ≤ p ∧ Kit.Row w' p (ints (Pc.clean n s.power)) ∧ Below base w w' := by
 have kp := fun W (hW : Below base w W) => Pc.clean_calls n s.pn s.pc s.pa s.power W h3 h8 (hp W hW)
 have kf := fun W => Vote.fresh_calls n W h3 h8
 have kn := fun (i : Nat) (hi : i < n) W => Nod.fresh_calls (n : Int) (i : Int) W (by omega) (by omega) (by omega) (by omega)
 unfold Hb.val at kf
 have KP := Lib.hid kp
 have KF := Lib.hid kf
 have KN := Lib.hid kn
 have HD := Lib.hid hDw
 have HG := Lib.hid hGw
 have ltD := hDw.lt
 have ltG := hGw.lt
 clear kp kf kn hDw hGw hp
 go_enter Tryz.func31, Tryz.ntmps31
 go_wp2_with fail
 have RK := Lib.hid (Kit.Row.newAt w #[.int .i64 s.n, .slice s.pa s.pn s.pc, .int .i64 s.c, .int .i64 s.v, .bool s.ld, .slice s.na s.nn s.nc, .int .i64 (s.h0.ag 0), .int .i64 (s.h0.ag 1), .int .i64 (s.h0.ag 2), .int .i64 (s.h0.ag 3), .int .i64 (s.h0.ag 4), .int .i64 (s.h0.ag 5), .int .i64 (s.h0.ag 6), .int .i64 (s.h0.ag 7), .int .i64 s.h0.port, .int .i64 s.h0.age, .int .i64 s.h0.hold, .int .i64 s.h0.pos, .int .i64 (s.h1.ag 0), .int .i64 (s.h1.ag 1), .int .i64 (s.h1.ag 2), .int .i64 (s.h1.ag 3), .int .i64 (s.h1.ag 4), .int .i64 (s.h1.ag 5), .int .i64 (s.h1.ag 6), .int .i64 (s.h1.ag 7), .int .i64 s.h1.port, .int .i64 s.h1.age, .int .i64 s.h1.hold, .int .i64 s.h1.pos, .slice s.ta s.tn s.tc] 32 w.heap.size rfl)
 have RW := Lib.hid (HD.out.alloc (.cells #[.int .i64 s.n, .slice s.pa s.pn s.pc, .int .i64 s.c, .int .i64 s.v, .bool s.ld, .slice s.na s.nn s.nc, .int .i64 (s.h0.ag 0), .int .i64 (s.h0.ag 1), .int .i64 (s.h0.ag 2), .int .i64 (s.h0.ag 3), .int .i64 (s.h0.ag 4), .int .i64 (s.h0.ag 5), .int .i64 (s.h0.ag 6), .int .i64 (s.h0.ag 7), .int .i64 s.h0.port, .int .i64 s.h0.age, .int .i64 s.h0.hold, .int .i64 s.h0.pos, .int .i64 (s.h1.ag 0), .int .i64 (s.h1.ag 1), .int .i64 (s.h1.ag 2), .int .i64 (s.h1.ag 3), .int .i64 (s.h1.ag 4), .int .i64 (s.h1.ag 5), .int .i64 (s.h1.ag 6), .int .i64 (s.h1.ag 7), .int .i64 s.h1.port, .int .i64 s.h1.age, .int .i64 s.h1.hold, .int .i64 s.h1.pos, .slice s.ta s.tn s.tc] 32))
 have RG := Lib.hid (HG.out.alloc (.cells #[.int .i64 s.n, .slice s.pa s.pn s.pc, .int .i64 s.c, .int .i64 s.v, .bool s.ld, .slice s.na s.nn s.nc, .int .i64 (s.h0.ag 0), .int .i64 (s.h0.ag 1), .int .i64 (s.h0.ag 2), .int .i64 (s.h0.ag 3), .int .i64 (s.h0.ag 4), .int .i64 (s.h0.ag 5), .int .i64 (s.h0.ag 6), .int .i64 (s.h0.ag 7), .int .i64 s.h0.port, .int .i64 s.h0.age, .int .i64 s.h0.hold, .int .i64 s.h0.pos, .int .i64 (s.h1.ag 0), .int .i64 (s.h1.ag 1), .int .i64 (s.h1.ag 2), .int .i64 (s.h1.ag 3), .int .i64 (s.h1.ag 4), .int .i64 (s.h1.ag 5), .int .i64 (s.h1.ag 6), .int .i64 (s.h1.ag 7), .int .i64 s.h1.port, .int .i64 s.h1.age, .int .i64 s.h1.hold, .int .i64 s.h1.pos, .slice s.ta s.tn s.tc] 32))
 have HB := Lib.hid ((Below.refl base w).alloc (by omega) (.cells #[.int .i64 s.n, .slice s.pa s.pn s.pc, .int .i64 s.c, .int .i64 s.v, .bool s.ld, .slice s.na s.nn s.nc, .int .i64 (s.h0.ag 0), .int .i64 (s.h0.ag 1), .int .i64 (s.h0.ag 2), .int .i64 (s.h0.ag 3), .int .i64 (s.h0.ag 4), .int .i64 (s.h0.ag 5), .int .i64 (s.h0.ag 6), .int .i64 (s.h0.ag 7), .int .i64 s.h0.port, .int .i64 s.h0.age, .int .i64 s.h0.hold, .int .i64 s.h0.pos, .int .i64 (s.h1.ag 0), .int .i64 (s.h1.ag 1), .int .i64 (s.h1.ag 2), .int .i64 (s.h1.ag 3), .int .i64 (s.h1.ag 4), .int .i64 (s.h1.ag 5), .int .i64 (s.h1.ag 6), .int .i64 (s.h1.ag 7), .int .i64 s.h1.port, .int .i64 s.h1.age, .int .i64 s.h1.hold, .int .i64 s.h1.pos, .slice s.ta s.tn s.tc] 32))
 have lt2 : w.heap.size < (w.alloc (.cells #[.int .i64 s.n, .slice s.pa s.pn s.pc, .int .i64 s.c, .int .i64 s.v, .bool s.ld, .slice s.na s.nn s.nc, .int .i64 (s.h0.ag 0), .int .i64 (s.h0.ag 1), .int .i64 (s.h0.ag 2), .int .i64 (s.h0.ag 3), .int .i64 (s.h0.ag 4), .int .i64 (s.h0.ag 5), .int .i64 (s.h0.ag 6), .int .i64 (s.h0.ag 7), .int .i64 s.h0.port, .int .i64 s.h0.age, .int .i64 s.h0.hold, .int .i64 s.h0.pos, .int .i64 (s.h1.ag 0), .int .i64 (s.h1.ag 1), .int .i64 (s.h1.ag 2), .int .i64 (s.h1.ag 3), .int .i64 (s.h1.ag 4), .int .i64 (s.h1.ag 5), .int .i64 (s.h1.ag 6), .int .i64 (s.h1.ag 7), .int .i64 s.h1.port, .int .i64 s.h1.age, .int .i64 s.h1.hold, .int .i64 s.h1.pos, .slice s.ta s.tn s.tc] 32)).heap.size := by simp
 clear HD HG
 generalize w.alloc (.cells #[.int .i64 s.n, .slice s.pa s.pn s.pc, .int .i64 s.c, .int .i64 s.v, .bool s.ld, .slice s.na s.nn s.nc, .int .i64 (s.h0.ag 0), .int .i64 (s.h0.ag 1), .int .i64 (s.h0.ag 2), .int .i64 (s.h0.ag 3), .int .i64 (s.h0.ag 4), .int .i64 (s.h0.ag 5), .int .i64 (s.h0.ag 6), .int .i64 (s.h0.ag 7), .int .i64 s.h0.port, .int .i64 s.h0.age, .int .i64 s.h0.hold, .int .i64 s.h0.pos, .int .i64 (s.h1.ag 0), .int .i64 (s.h1.ag 1), .int .i64 (s.h1.ag 2), .int .i64 (s.h1.ag 3), .int .i64 (s.h1.ag 4), .int .i64 (s.h1.ag 5), .int .i64 (s.h1.ag 6), .int .i64 (s.h1.ag 7), .int .i64 s.h1.port, .int .i64 s.h1.age, .int .i64 s.h1.hold, .int .i64 s.h1.pos, .slice s.ta s.tn s.tc] 32) = w2 at *
 have c0 := RW.out.at_ 0 (.int .i64 n) rfl
 have k1 := RK.out.at_ 1 (.slice s.pa s.pn s.pc) rfl
 refine wp_region_held_drew (S := (fun w' => w'.cell? ⟨D, 0, none⟩ = some (.int .i64 n) ∧ w'.cell? ⟨w.heap.size, 1, none⟩ = some (.slice s.pa s.pn s.pc))) (by kernel_rfl) ?_ (fun hHeld => ?_)
 ·go_keep
 refine Rgn.tk 0 rfl ?_
 try simp only [Act.put, Rgn.a, Rgn.b, Rgn.c]
 refine Rgn.tk 1 rfl ?_
 try simp only [Act.put, Rgn.a, Rgn.b, Rgn.c]
 refine Rgn.tk 2 rfl ?_
 try simp only [Act.put, Rgn.a, Rgn.b, Rgn.c]
 refine Rgn.tk 3 rfl ?_
 try simp only [Act.put, Rgn.a, Rgn.b, Rgn.c]
 refine Rgn.tk 4 rfl ?_
 try simp only [Act.put, Rgn.a, Rgn.b, Rgn.c]
 refine Rgn.tk 5 rfl ?_
 try simp only [Act.put, Rgn.a, Rgn.b, Rgn.c]
 refine Rgn.tk 6 rfl ?_
 try simp only [Act.put, Rgn.a, Rgn.b, Rgn.c]
 refine Rgn.one 7 rfl (by kernel_rfl) (fun K hK => ?_)
 go_simp
 refine (KP.out _ HB.out.drew).mono ?_
 rintro e w3 ⟨rfl, rp, b3⟩
 replace RW := Lib.hid (RW.out.drew.below b3)
 replace RK := Lib.hid (RK.out.drew.below b3)
 replace RG := Lib.hid (RG.out.drew.below b3)
 replace HB := Lib.hid (HB.out.drew.trans (b3.mono (by have := HB.out.drew.size; omega)))
 have RP : Hid (Kit.Row w3 w2.heap.size (ints (Pc.clean n s.power))) := Lib.hid rp
 clear rp b3 c0 k1
 have c0 := RW.out.at_ 0 (.int .i64 n) rfl
 have k1 := RK.out.at_ 1 (.slice s.pa s.pn s.pc) rfl
 have d4 := RW.out.at_ 4 (.slice none 0 0) rfl
 have z4 := RW.out.free 4 (by simp)
 go_simp
 refine hK.out _ _ ?_ (fun hHeld => ?_)
 ·first | go_keep | ((try dsimp only); (repeat' apply And.intro) <;> first | assumption | go_simp)
 clear hK K
 try simp only [Act.put, Rgn.a, Rgn.b, Rgn.c]
 refine Rgn.tk 8 rfl ?_
 try simp only [Act.put, Rgn.a, Rgn.b, Rgn.c]
 refine Rgn.tk 9 rfl ?_
 try simp only [Act.put, Rgn.a, Rgn.b, Rgn.c]
 refine Rgn.tk 10 rfl ?_
 try simp only [Act.put, Rgn.a, Rgn.b, Rgn.c]
 refine Rgn.tk 11 rfl ?_
 try simp only [Act.put, Rgn.a, Rgn.b, Rgn.c]
 refine Rgn.tk 12 rfl ?_
 try simp only [Act.put, Rgn.a, Rgn.b, Rgn.c]
 refine Rgn.one 13 rfl (by kernel_rfl) (fun K hK => ?_)
 go_simp
 replace RW := Lib.hid (RW.out.set 4 (.slice (some ⟨w2.heap.size, 0, none⟩) n n) (by simp))
 replace RK := Lib.hid (RK.out.far D 4 (.slice (some ⟨w2.heap.size, 0, none⟩) n n) (by omega))
 replace RG := Lib.hid (RG.out.far D 4 (.slice (some ⟨w2.heap.size, 0, none⟩) n n) (by omega))
 replace RP := Lib.hid (RP.out.far D 4 (.slice (some ⟨w2.heap.size, 0, none⟩) n n) (by omega))
 replace HB : Hid (Below base w (w3.setCell ⟨D, 4, none⟩ (.slice (some ⟨w2.heap.size, 0, none⟩) n n))) := Lib.hid (HB.out.setCell hD _)
 clear d4 z4 c0 k1
 have c0 := RW.out.at_ 0 (.int .i64 n) rfl
 have k1 := RK.out.at_ 1 (.slice s.pa s.pn s.pc) rfl
 refine hK.out _ _ ?_ (fun hHeld => ?_)
 ·first | go_keep | ((try dsimp only); (repeat' apply And.intro) <;> first | assumption | go_simp)
 clear hK K
 try simp only [Act.put, Rgn.a, Rgn.b, Rgn.c]
 refine wpAnyH_done (by kernel_rfl) ?_ _
 have hpz : w.heap.size ≤ w2.heap.size := by omega
 generalize w3.setCell ⟨D, 4, none⟩ (.slice (some ⟨w2.heap.size, 0, none⟩) n n) = w5 at *
 generalize w2.heap.size = p at *
 go_wp2_with fail
 refine (KF.out _).mono ?_
 rintro e w6 ⟨rfl, b6⟩
 replace RW := Lib.hid (RW.out.below b6)
 replace RG := Lib.hid (RG.out.below b6)
 replace RP := Lib.hid (RP.out.below b6)
 replace HB := Lib.hid (HB.out.trans (b6.mono (by have := HB.out.size; omega)))
 clear b6 RK c0 k1
 dsimp only
 iterate 13 (first | go_guarded | go_step | go_upon | go_back)
 have hs6 := HB.out.size
 have lp6 := RP.out.lt
 refine Kit.wpList_store_row rfl 28 (.tmp 4) (.tmp 26) rfl w6.heap.size 0 #[.int .i64 ((Wm.fresh n).ag 0), .int .i64 ((Wm.fresh n).ag 1), .int .i64 ((Wm.fresh n).ag 2), .int .i64 ((Wm.fresh n).ag 3), .int .i64 ((Wm.fresh n).ag 4), .int .i64 ((Wm.fresh n).ag 5), .int .i64 ((Wm.fresh n).ag 6), .int .i64 ((Wm.fresh n).ag 7), .int .i64 ((Wm.fresh n).port), .int .i64 ((Wm.fresh n).age), .int .i64 ((Wm.fresh n).hold), .int .i64 ((Wm.fresh n).pos)] rfl rfl (Kit.Row.newAt w6 _ _ _ rfl) (by simp) Link.sizeHub (by first | rfl | (simp [Value.oneCell']; done) | decide) ?_
 intro W hW
 replace RW := Lib.hid ((RW.out.alloc _).off hW (by omega))
 replace RG := Lib.hid ((RG.out.alloc _).off hW (by omega))
 replace RP := Lib.hid ((RP.out.alloc _).off hW (by omega))
 have RH : Hid (Kit.Row W w6.heap.size [.int .i64 ((Wm.fresh n).ag 0), .int .i64 ((Wm.fresh n).ag 1), .int .i64 ((Wm.fresh n).ag 2), .int .i64 ((Wm.fresh n).ag 3), .int .i64 ((Wm.fresh n).ag 4), .int .i64 ((Wm.fresh n).ag 5), .int .i64 ((Wm.fresh n).ag 6), .int .i64 ((Wm.fresh n).ag 7), .int .i64 ((Wm.fresh n).port), .int .i64 ((Wm.fresh n).age), .int .i64 ((Wm.fresh n).hold), .int .i64 ((Wm.fresh n).pos)]) := Lib.hid ((Kit.Row.newAt w6 _ _ _ rfl).all hW rfl)
 replace HB := Lib.hid (Kit.below_of (HB.out.alloc (by omega) _) hW (by omega))
 clear hW
 generalize w6.heap.size = H at *
 have c0 := RH.out.at_ 0 (.int .i64 ((Wm.fresh n).ag 0)) rfl
 have c1 := RH.out.at_ 1 (.int .i64 ((Wm.fresh n).ag 1)) rfl
 have c2 := RH.out.at_ 2 (.int .i64 ((Wm.fresh n).ag 2)) rfl
 have c3 := RH.out.at_ 3 (.int .i64 ((Wm.fresh n).ag 3)) rfl
 have c4 := RH.out.at_ 4 (.int .i64 ((Wm.fresh n).ag 4)) rfl
 have c5 := RH.out.at_ 5 (.int .i64 ((Wm.fresh n).ag 5)) rfl
 have c6 := RH.out.at_ 6 (.int .i64 ((Wm.fresh n).ag 6)) rfl
 have c7 := RH.out.at_ 7 (.int .i64 ((Wm.fresh n).ag 7)) rfl
 have c8 := RH.out.at_ 8 (.int .i64 ((Wm.fresh n).port)) rfl
 have c9 := RH.out.at_ 9 (.int .i64 ((Wm.fresh n).age)) rfl
 have c10 := RH.out.at_ 10 (.int .i64 ((Wm.fresh n).hold)) rfl
 have c11 := RH.out.at_ 11 (.int .i64 ((Wm.fresh n).pos)) rfl
 dsimp only
 go_upto_region 3 with fail
 iterate 19 (first | go_guarded | go_step | go_upon | go_back)
 refine Kit.wpList_store_row rfl 29 (.tmp 33) (.tmp 31) rfl D 6 #[.int .i64 ((Wm.fresh n).ag 0), .int .i64 ((Wm.fresh n).ag 1), .int .i64 ((Wm.fresh n).ag 2), .int .i64 ((Wm.fresh n).ag 3), .int .i64 ((Wm.fresh n).ag 4), .int .i64 ((Wm.fresh n).ag 5), .int .i64 ((Wm.fresh n).ag 6), .int .i64 ((Wm.fresh n).ag 7), .int .i64 ((Wm.fresh n).port), .int .i64 ((Wm.fresh n).age), .int .i64 ((Wm.fresh n).hold), .int .i64 ((Wm.fresh n).pos), .int .i64 ((Wm.fresh n).ag 0), .int .i64 ((Wm.fresh n).ag 1), .int .i64 ((Wm.fresh n).ag 2), .int .i64 ((Wm.fresh n).ag 3), .int .i64 ((Wm.fresh n).ag 4), .int .i64 ((Wm.fresh n).ag 5), .int .i64 ((Wm.fresh n).ag 6), .int .i64 ((Wm.fresh n).ag 7), .int .i64 ((Wm.fresh n).port), .int .i64 ((Wm.fresh n).age), .int .i64 ((Wm.fresh n).hold), .int .i64 ((Wm.fresh n).pos)] rfl rfl RW.out (by simp) Link.sizeHubs (by first | rfl | (simp [Value.oneCell']; done) | decide) ?_
 intro W2 hW2
 replace RW : Hid (Kit.Row W2 D [.int .i64 n, .int .i64 0, .int .i64 c, .int .i64 v, .slice (some ⟨p, 0, none⟩) n n, .slice (some ⟨G, 0, none⟩) n n, .int .i64 ((Wm.fresh n).ag 0), .int .i64 ((Wm.fresh n).ag 1), .int .i64 ((Wm.fresh n).ag 2), .int .i64 ((Wm.fresh n).ag 3), .int .i64 ((Wm.fresh n).ag 4), .int .i64 ((Wm.fresh n).ag 5), .int .i64 ((Wm.fresh n).ag 6), .int .i64 ((Wm.fresh n).ag 7), .int .i64 ((Wm.fresh n).port), .int .i64 ((Wm.fresh n).age), .int .i64 ((Wm.fresh n).hold), .int .i64 ((Wm.fresh n).pos), .int .i64 ((Wm.fresh n).ag 0), .int .i64 ((Wm.fresh n).ag 1), .int .i64 ((Wm.fresh n).ag 2), .int .i64 ((Wm.fresh n).ag 3), .int .i64 ((Wm.fresh n).ag 4), .int .i64 ((Wm.fresh n).ag 5), .int .i64 ((Wm.fresh n).ag 6), .int .i64 ((Wm.fresh n).ag 7), .int .i64 ((Wm.fresh n).port), .int .i64 ((Wm.fresh n).age), .int .i64 ((Wm.fresh n).hold), .int .i64 ((Wm.fresh n).pos)]) := Lib.hid ((RW.out.on hW2 (by simp)).cast rfl)
 replace RG := Lib.hid (RG.out.off hW2 hne)
 replace RP := Lib.hid (RP.out.off hW2 (by omega))
 replace HB := Lib.hid (Kit.below_of HB.out hW2 hD)
 clear hW2 RH c0 c1 c2 c3 c4 c5 c6 c7 c8 c9 c10 c11
 have d5 := RW.out.at_ 5 (.slice (some ⟨G, 0, none⟩) n n) rfl
 go_wp2_with fail
 have hz : (List.replicate n Nd.zero).length = n := List.length_replicate
 go_loopw [6, 39] (fun _ vi wr => ∃ k : Nat, k ≤ n ∧ vi = .int .i64 k ∧ Hid (Kit.Row wr D [.int .i64 n, .int .i64 0, .int .i64 c, .int .i64 v, .slice (some ⟨p, 0, none⟩) n n, .slice (some ⟨G, 0, none⟩) n n, .int .i64 ((Wm.fresh n).ag 0), .int .i64 ((Wm.fresh n).ag 1), .int .i64 ((Wm.fresh n).ag 2), .int .i64 ((Wm.fresh n).ag 3), .int .i64 ((Wm.fresh n).ag 4), .int .i64 ((Wm.fresh n).ag 5), .int .i64 ((Wm.fresh n).ag 6), .int .i64 ((Wm.fresh n).ag 7), .int .i64 ((Wm.fresh n).port), .int .i64 ((Wm.fresh n).age), .int .i64 ((Wm.fresh n).hold), .int .i64 ((Wm.fresh n).pos), .int .i64 ((Wm.fresh n).ag 0), .int .i64 ((Wm.fresh n).ag 1), .int .i64 ((Wm.fresh n).ag 2), .int .i64 ((Wm.fresh n).ag 3), .int .i64 ((Wm.fresh n).ag 4), .int .i64 ((Wm.fresh n).ag 5), .int .i64 ((Wm.fresh n).ag 6), .int .i64 ((Wm.fresh n).ag 7), .int .i64 ((Wm.fresh n).port), .int .i64 ((Wm.fresh n).age), .int .i64 ((Wm.fresh n).hold), .int .i64 ((Wm.fresh n).pos)]) ∧ Hid (Kit.Row wr G (Cl.cells (mid n off (List.replicate n Nd.zero) k))) ∧ Hid (Kit.Row wr p (ints (Pc.clean n s.power))) ∧ Hid (Below base w wr)) (fun _ vi _ => n - (intOf vi).toNat)
 case atStart => exact ⟨0, by omega, rfl, RW, Lib.hid (by rw [mid_zero n off _ hz]; exact RG.out), RP, HB⟩
 case round =>
  clear RW RG RP HB d5
  obtain ⟨k, hk, rfl, RW, RG, RP, HB⟩ := hrel
  by_cases hlt : k < n
  ·obtain ⟨d0, d1, d2, d3⟩ := Cl.cells_get _ k _ (mid_at n off (List.replicate n Nd.zero) k hlt)
   have hs9 := HB.out.size
   have lg9 := RG.out.lt
   have c0 := RW.out.at_ 0 (.int .i64 n) rfl
   have c5 := RW.out.at_ 5 (.slice (some ⟨G, 0, none⟩) n n) rfl
   go_wp2_with fail
   refine wp_region_held_drew (S := (fun w' => w'.cell? ⟨D, 0, none⟩ = some (.int .i64 n) ∧ w'.cell? ⟨D, 5, none⟩ = some (.slice (some ⟨G, 0, none⟩) n n))) (by kernel_rfl) ?_ (fun hHeld => ?_)
   ·go_keep
   refine Rgn.tk 0 rfl ?_
   try simp only [Act.put, Rgn.a, Rgn.b, Rgn.c]
   refine Rgn.tk 1 rfl ?_
   try simp only [Act.put, Rgn.a, Rgn.b, Rgn.c]
   refine Rgn.tk 2 rfl ?_
   try simp only [Act.put, Rgn.a, Rgn.b, Rgn.c]
   refine Rgn.tk 3 rfl ?_
   try simp only [Act.put, Rgn.a, Rgn.b, Rgn.c]
   refine Rgn.tk 4 rfl ?_
   try simp only [Act.put, Rgn.a, Rgn.b, Rgn.c]
   refine Rgn.tk 5 rfl ?_
   try simp only [Act.put, Rgn.a, Rgn.b, Rgn.c]
   refine Rgn.tk 6 rfl ?_
   try simp only [Act.put, Rgn.a, Rgn.b, Rgn.c]
   refine Rgn.tk 7 rfl ?_
   try simp only [Act.put, Rgn.a, Rgn.b, Rgn.c]
   refine Rgn.tk 8 rfl ?_
   try simp only [Act.put, Rgn.a, Rgn.b, Rgn.c]
   refine Rgn.tk 9 rfl ?_
   try simp only [Act.put, Rgn.a, Rgn.b, Rgn.c]
   refine Rgn.one 10 rfl (by kernel_rfl) (fun K hK => ?_)
   go_simp
   refine (KN.out k hlt _).mono ?_
   rintro e w9 ⟨rfl, b9⟩
   replace RW := Lib.hid (RW.out.drew.below b9)
   replace RG := Lib.hid (RG.out.drew.below b9)
   replace RP := Lib.hid (RP.out.drew.below b9)
   replace HB := Lib.hid (HB.out.drew.trans (b9.mono (by have := HB.out.drew.size; omega)))
   clear b9 c0 c5
   have c0 := RW.out.at_ 0 (.int .i64 n) rfl
   have c5 := RW.out.at_ 5 (.slice (some ⟨G, 0, none⟩) n n) rfl
   have x0 := RG.out.at_ (k * 4) _ d0
   have x1 := RG.out.at_ (k * 4 + 1) _ d1
   have x2 := RG.out.at_ (k * 4 + 2) _ d2
   have x3 := RG.out.at_ (k * 4 + 3) _ d3
   have z0 := RG.out.free (k * 4) (by rw [Cl.cells_len, mid_len]; omega)
   have z1 := RG.out.free (k * 4 + 1) (by rw [Cl.cells_len, mid_len]; omega)
   have z2 := RG.out.free (k * 4 + 2) (by rw [Cl.cells_len, mid_len]; omega)
   have z3 := RG.out.free (k * 4 + 3) (by rw [Cl.cells_len, mid_len]; omega)
   go_simp
   refine hK.out _ _ ?_ (fun hHeld => ?_)
   ·first | go_keep | ((try dsimp only); (repeat' apply And.intro) <;> first | assumption | go_simp)
   clear hK K
   try simp only [Act.put, Rgn.a, Rgn.b, Rgn.c]
   refine Rgn.tk 11 rfl ?_
   try simp only [Act.put, Rgn.a, Rgn.b, Rgn.c]
   refine Rgn.tk 12 rfl ?_
   try simp only [Act.put, Rgn.a, Rgn.b, Rgn.c]
   refine Rgn.tk 13 rfl ?_
   try simp only [Act.put, Rgn.a, Rgn.b, Rgn.c]
   refine Rgn.tk 14 rfl ?_
   try simp only [Act.put, Rgn.a, Rgn.b, Rgn.c]
   refine Rgn.one 15 rfl (by kernel_rfl) (fun K hK => ?_)
   go_simp
   have hl : k < (mid n off (List.replicate n Nd.zero) k).length := by rw [mid_len]; exact hlt
   replace RG := Lib.hid (((((RG.out.set (k * 4) (.int .i64 (off k).id) (by simp only [List.length_set, Cl.cells_len, mid_len]; omega)).set (k * 4 + 1) (.int .i64 (off k).md) (by simp only [List.length_set, Cl.cells_len, mid_len]; omega)).set (k * 4 + 2) (.int .i64 (off k).ct) (by simp only [List.length_set, Cl.cells_len, mid_len]; omega)).set (k * 4 + 3) (.int .i64 (off k).ps) (by simp only [List.length_set, Cl.cells_len, mid_len]; omega)).cast (by rw [Cl.cells_set _ k (off k) hl, ← mid_succ n off _ k hlt]))
   replace RW := Lib.hid ((((RW.out.far G (k * 4) (.int .i64 (off k).id) (by omega)).far G (k * 4 + 1) (.int .i64 (off k).md) (by omega)).far G (k * 4 + 2) (.int .i64 (off k).ct) (by omega)).far G (k * 4 + 3) (.int .i64 (off k).ps) (by omega))
   replace RP := Lib.hid ((((RP.out.far G (k * 4) (.int .i64 (off k).id) (by omega)).far G (k * 4 + 1) (.int .i64 (off k).md) (by omega)).far G (k * 4 + 2) (.int .i64 (off k).ct) (by omega)).far G (k * 4 + 3) (.int .i64 (off k).ps) (by omega))
   replace HB := Lib.hid ((((HB.out.setCell (p := ⟨G, k * 4, none⟩) hG (.int .i64 (off k).id)).setCell (p := ⟨G, k * 4 + 1, none⟩) hG (.int .i64 (off k).md)).setCell (p := ⟨G, k * 4 + 2, none⟩) hG (.int .i64 (off k).ct)).setCell (p := ⟨G, k * 4 + 3, none⟩) hG (.int .i64 (off k).ps))
   clear c0 c5 hl x0 z0 x1 z1 x2 z2 x3 z3
   have c0 := RW.out.at_ 0 (.int .i64 n) rfl
   have c5 := RW.out.at_ 5 (.slice (some ⟨G, 0, none⟩) n n) rfl
   refine hK.out _ _ ?_ (fun hHeld => ?_)
   ·first | go_keep | ((try dsimp only); (repeat' apply And.intro) <;> first | assumption | go_simp)
   clear hK K
   try simp only [Act.put, Rgn.a, Rgn.b, Rgn.c]
   refine wpAnyH_done (by kernel_rfl) ?_ _
   clear c0 c5
   go_wp2_with fail
   go_roundw
   case rel => exact ⟨k + 1, by omega, by go_num, RW, RG, RP, HB⟩
   case measure => simp [intOf]; omega
  ·obtain rfl : k = n := by omega
   go_wp2_with fail
   exact Go.Great.bodyPost_end0 rfl rfl ⟨rfl, p, RW.out, by rw [← mid_all]; exact RG.out, by omega, RP.out, HB.out⟩
end Nw
end Go.Proofs.YtgiojagdmglinaaGreatDoor
