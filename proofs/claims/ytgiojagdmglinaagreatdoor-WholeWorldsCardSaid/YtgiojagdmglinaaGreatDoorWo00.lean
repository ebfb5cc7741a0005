/-
  Part 0 of a merged text.
-/
import Derived.Test.YtgiojagdmglinaaGreatDoorRows
import Derived.WalkKit
import Derived.ProofKit
import Derived.Test.YtgiojagdmglinaaGreatDoorGb34
import Derived.Laws.CopyOwn
import Derived.Deep.MidRow
set_option linter.unusedVariables false
set_option linter.unusedSimpArgs false
set_option maxRecDepth 100000
namespace Go.Proofs.YtgiojagdmglinaaGreatDoor.WholeWorlds
theorem own : ownKnob Tryz.prog.godebug = none := by kernel_rfl
theorem laidOut : laidOutB Tryz.prog = true := by kernel_rfl
theorem named : Tryz.pinned.checked.prog.funcNamed Rows.wholeWorldsRow.func = some 3 := by kernel_rfl
theorem facts : joinedFacts Tryz.pinned.checked.prog 3 Tryz.f3 Rows.wholeWorldsSpec Rows.wholeWorldsRow = true := by kernel_rfl
end Go.Proofs.YtgiojagdmglinaaGreatDoor.WholeWorlds
namespace Go.Proofs.YtgiojagdmglinaaGreatDoor
open Go Go.RowKit
namespace Kit
variable {P : Program}
theorem run_copy_k (w : World) (dT sT ty elem : TypeId) (k b o dLen dCap : Nat) (sp : Option Addr) (sLen sCap : Nat) (cs : List Value) (hk : 0 < k)
  (hu : P.underlying dT = some (.slice elem)) (hs : (P.info? elem).map (·.size) = some k) (hn : cs.length = Nat.min sLen dLen * k)
  (hsrc : 0 < cs.length → ∃ ad, sp = some ad ∧ ∀ j v, cs[j]? = some v → w.cell? (ad.add j) = some v) (ht : w.there b o cs.length) (h1 : ∀ v ∈ cs, v.oneCell' = true) :
  (Builtin.copy_ #[dT, sT] ty #[.slice (some ⟨b, o, none⟩) dLen dCap, .slice sp sLen sCap]).run P w = .ok (goInt (Nat.min sLen dLen : Nat)) (w.setCells b o cs) := by
 have hst := run_storeCells_cells (P := P) b o cs 0 w (fun j hj => by simpa using (ht j hj).1) (fun j hj => by simpa using (ht j hj).2) h1
 cases hq : P.info? elem with
 | none => simp [hq] at hs
 | some i =>
  have hi : i.size = k := by simpa [hq] using hs
  by_cases h0 : cs.length = 0
  ·obtain rfl : cs = [] := List.eq_nil_of_length_eq_zero h0
   have hm : Nat.min sLen dLen = 0 := by
    rcases Nat.eq_zero_or_pos (Nat.min sLen dLen) with h | h
    ·exact h
    ·have := Nat.mul_pos h hk
     simp at hn
     omega
   have hl : ∀ (x : Addr), (loadCells x 0).run P w = .ok #[] w := fun x => by simpa using run_loadCells_list (P := P) w x [] (by simp)
   cases sp <;> simp [Builtin.copy_, run_underlying hu, Builtin.lenOf, Builtin.firstCells, sizeOf, typeInfo, hq, hm, hl, storeCells, World.setCells]
  ·obtain ⟨ad, rfl, hc⟩ := hsrc (by omega)
   have hl := run_loadCells_list (P := P) w ad cs hc
   simp only [Nat.add_zero] at hst
   simp [Builtin.copy_, run_underlying hu, Builtin.lenOf, Builtin.firstCells, sizeOf, typeInfo, hq, hi, ← hn, hl, hst]
theorem wp_copy_k {o : Oper} {a : Act} {w : World} {K : Act → World → Prop} {Q : Exit → Act → World → Prop} (d s : Operand) (dT sT : TypeId)
  (ho : o.op = .call { callee := .builtin .copy, args := #[d, s], argTypes := #[dT, sT] }) (elem : TypeId) (k : Nat) (hk : 0 < k) (hu : P.underlying dT = some (.slice elem)) (hsz : (P.info? elem).map (·.size) = some k)
  (b dLen dCap : Nat) (sp : Option Addr) (sLen sCap : Nat) (hd : a.eval d = .slice (some ⟨b, 0, none⟩) dLen dCap) (hs : a.eval s = .slice sp sLen sCap)
  {L : List Value} (hr : Row w b L) (cs : List Value) (hn : cs.length = Nat.min sLen dLen * k) (hfit : 0 + cs.length ≤ L.length)
  (hsrc : 0 < cs.length → ∃ ad, sp = some ad ∧ ∀ j v, cs[j]? = some v → w.cell? (ad.add j) = some v) (h1 : ∀ v ∈ cs, v.oneCell' = true)
  (h : ∀ W, Stored w W b 0 cs → K (a.put o.dst (goInt (Nat.min sLen dLen : Nat))) W) : o.wp P a w K Q := by
 have hrun := run_copy_k (P := P) w dT sT o.type elem k b 0 dLen dCap sp sLen sCap cs hk hu hsz hn hsrc (hr.there 0 _ hfit) h1
 unfold Oper.wp
 simp [execOp, ho, resolve, invoke, builtin, hd, hs, hrun, Result.andThen]
 exact h _ rfl
end Kit
namespace Cl
theorem cells_app (l m : List Nd) : cells (l ++ m) = cells l ++ cells m := by simp [cells]
def over (n : Nat) (l : List Nd) : List Nd := l.take n ++ List.replicate (n - l.length) Nd.zero
theorem over_len (n : Nat) (l : List Nd) : (over n l).length = n := by simp [over]; omega
theorem over_cells (n : Nat) (l : List Nd) : (cells (List.replicate n Nd.zero)).take 0 ++ (cells (l.take n) ++ (cells (List.replicate n Nd.zero)).drop (0 + (cells (l.take n)).length)) = cells (over n l) := by
 unfold over
 rw [cells_app, List.take_zero, List.nil_append]
 congr 1
 have h : List.replicate n Nd.zero = List.replicate (l.take n).length Nd.zero ++ List.replicate (n - l.length) Nd.zero := by
  rw [List.replicate_append_replicate]
  congr 1
  simp
  omega
 rw [h, cells_app, Nat.zero_add]
 have e : (cells (l.take n)).length = (cells (List.replicate (l.take n).length Nd.zero)).length := by rw [cells_len, cells_len]; simp
 rw [e, List.drop_left]
theorem take_src {w : World} {A : Option Addr} {m n : Nat} {l : List Nd} (h : Nodes w A m l) : 0 < (cells (l.take n)).length → ∃ ad, A = some ad ∧ ∀ j v, (cells (l.take n))[j]? = some v → w.cell? (ad.add j) = some v := by
 intro hpos
 have hm : 0 < m := by
  rw [cells_len] at hpos
  have := h.len
  simp at hpos
  omega
 obtain ⟨b, off, rfl, _, _⟩ := h.row hm
 refine ⟨_, rfl, fun j v hv => (frames h).2 j v ?_⟩
 have e : cells l = cells (l.take n) ++ cells (l.drop n) := by rw [← cells_app, List.take_append_drop]
 rw [e, List.getElem?_append_left (List.getElem?_eq_some_iff.1 hv).1]
 exact hv
end Cl
end Go.Proofs.YtgiojagdmglinaaGreatDoor
namespace Go.Proofs.YtgiojagdmglinaaGreatDoor
open Go Go.RowKit
namespace Nc
def made (n i : Nat) (x : Nd) : Nd := if x.md = 3 then ⟨i, 3, Tal.clamp x.ct 0 1073741824, x.ps % n⟩ else if x.md = 2 then ⟨i, 2, Tal.clamp x.ct 0 1073741824, 0⟩ else ⟨i, 1, Tal.clamp x.ct 0 1073741824, 0⟩
theorem right_of {n i : Nat} {m c p : Int} (hm : m = 1 ∨ m = 2 ∨ m = 3) (hc : 0 ≤ c ∧ c ≤ 1073741824) (hp : 0 ≤ p ∧ p < n) (hr : m ≠ 3 → p = 0) : Wm.NRight n i ⟨i, m, c, p⟩ where
 id := rfl
 md := by show 0 ≤ m ∧ m ≤ 3; omega
 ct := hc
 ps := hp
 init := fun h => by
  have h' : m = 0 := h
  omega
 rest := hr
theorem made_right (n i : Nat) (x : Nd) (h3 : 3 ≤ n) : Wm.NRight n i (made n i x) := by
 have hc : 0 ≤ Tal.clamp x.ct 0 1073741824 ∧ Tal.clamp x.ct 0 1073741824 ≤ 1073741824 := by unfold Tal.clamp; omega
 unfold made
 split
 ·exact right_of (by omega) hc ⟨Int.emod_nonneg _ (by omega), Int.emod_lt_of_pos _ (by omega)⟩ (fun h => absurd rfl h)
 ·split
  ·exact right_of (by omega) hc ⟨by omega, by omega⟩ (fun _ => rfl)
  ·exact right_of (by omega) hc ⟨by omega, by omega⟩ (fun _ => rfl)
set_option maxHeartbeats 1000000 in
theorem clean_calls (n i : Nat) (x : Nd) (w : World) (h3 : 3 ≤ n) (h8 : n ≤ 8) (hi : i < n) :
  Calls Tryz.prog 60 #[.int .i64 (n : Int), .int .i64 (i : Int), .agg #[.int .i64 x.id, .int .i64 x.md, .int .i64 x.ct, .int .i64 x.ps]] w fun e w' => e = .returned (.tuple #[.agg #[.int .i64 (made n i x).id, .int .i64 (made n i x).md, .int .i64 (made n i x).ct, .int .i64 (made n i x).ps], .int .i64 0]) ∧ Below w.heap.size w w' := by
 have kf := fun W => Nod.fresh_calls (n : Int) (i : Int) W (by omega) (by omega) (by omega) (by omega)
 have KF := Lib.hid kf
 have km := fun W => Tal.modx_calls (n : Int) x.ps W (by omega) (by omega)
 have hmade : made n i x = if x.md = 3 then ⟨i, 3, Tal.clamp x.ct 0 1073741824, x.ps % n⟩ else if x.md = 2 then ⟨i, 2, Tal.clamp x.ct 0 1073741824, 0⟩ else ⟨i, 1, Tal.clamp x.ct 0 1073741824, 0⟩ := rfl
 have KM := Lib.hid km
 have kc := fun W => Tal.clamp_calls x.ct 0 1073741824 W
 generalize made n i x = y at *
 generalize Tal.clamp x.ct 0 1073741824 = c at *
 have KC := Lib.hid kc
 have HMD := Lib.hid hmade
 clear kf km kc hmade
 have hcase : (x.md == 3) = true ∨ ((x.md == 3) = false ∧ (x.md == 2) = true) ∨ ((x.md == 3) = false ∧ (x.md == 2) = false) := by
  cases h : (x.md == 3)
  ·cases h2 : (x.md == 2)
   ·exact Or.inr (Or.inr ⟨rfl, rfl⟩)
   ·exact Or.inr (Or.inl ⟨rfl, rfl⟩)
  ·exact Or.inl rfl
 go_enter Tryz.func60, Tryz.ntmps60
 go_wp2_with fail
 refine (KF.out _).mono ?_
 rintro e w1 ⟨rfl, hb⟩
 have r5 := ((Kit.Row.newAt w #[Value.int .i64 x.id, .int .i64 x.md, .int .i64 x.ct, .int .i64 x.ps] 60 w.heap.size rfl).alloc (.cells #[Value.int .i64 0, .int .i64 0, .int .i64 0, .int .i64 0] 60)).below hb
 have r6 := (Kit.Row.newAt (w.alloc (.cells #[Value.int .i64 x.id, .int .i64 x.md, .int .i64 x.ct, .int .i64 x.ps] 60)) #[Value.int .i64 0, .int .i64 0, .int .i64 0, .int .i64 0] 60 (w.heap.size + 1) (by simp)).below hb
 have HB := Lib.hid (Kit.chain (((Below.refl w.heap.size w).alloc (Nat.le_refl _) (.cells #[Value.int .i64 x.id, .int .i64 x.md, .int .i64 x.ct, .int .i64 x.ps] 60)).alloc (by simp) (.cells #[Value.int .i64 0, .int .i64 0, .int .i64 0, .int .i64 0] 60)) hb)
 have d0 := r5.at_ 0 _ rfl
 have d1 := r5.at_ 1 _ rfl
 have d2 := r5.at_ 2 _ rfl
 have d3 := r5.at_ 3 _ rfl
 have f0 := r5.free 0 (by simp)
 have f1 := r5.free 1 (by simp)
 have f2 := r5.free 2 (by simp)
 have f3 := r5.free 3 (by simp)
 have e0 := r6.at_ 0 _ rfl
 have e1 := r6.at_ 1 _ rfl
 have e2 := r6.at_ 2 _ rfl
 have e3 := r6.at_ 3 _ rfl
 have g0 := r6.free 0 (by simp)
 have g1 := r6.free 1 (by simp)
 have g2 := r6.free 2 (by simp)
 have g3 := r6.free 3 (by simp)
 have hlt : w.heap.size + 1 < w1.heap.size := r6.lt
 have hlt0 : w.heap.size < w1.heap.size := by omega
 clear hb r5 r6
 rcases hcase with h3' | ⟨h3', h2'⟩ | ⟨h3', h2'⟩
 ·have hm3 : x.md = 3 := by simpa using h3'
  go_wp2_with fail
  refine (KC.out _).mono ?_
  rintro e w2 ⟨rfl, rfl⟩
  go_wp2_with fail
  refine (KM.out _).mono ?_
  rintro e w2 ⟨rfl, rfl⟩
  go_wp2_with fail
  refine bodyPost_ret (v := .tuple #[.agg #[.int .i64 (i : Int), .int .i64 3, .int .i64 c, .int .i64 (x.ps % n)], .int .i64 0]) (by simp [results, Tryz.results60, go_sem, d0, d1, d2, d3, e0, e1, e2, e3, hlt, hlt0, hm3]) rfl ⟨by rw [HMD.out, if_pos hm3], ?_⟩
  repeat' (first | (with_reducible exact HB.out) | (with_reducible refine Below.setCell ?_ ?_ _) | (with_reducible refine Below.alloc ?_ ?_ _) | (with_reducible refine Below.drew ?_))
  all_goals (first | omega | (simp; done) | (simp; omega))
 ·have hm2 : x.md = 2 := by simpa using h2'
  go_wp2_with fail
  refine (KC.out _).mono ?_
  rintro e w2 ⟨rfl, rfl⟩
  go_wp2_with fail
  refine bodyPost_ret (v := .tuple #[.agg #[.int .i64 (i : Int), .int .i64 2, .int .i64 c, .int .i64 0], .int .i64 0]) (by simp [results, Tryz.results60, go_sem, d0, d1, d2, d3, e0, e1, e2, e3, hlt, hlt0, hm2]) rfl ⟨by rw [HMD.out, if_neg (by omega), if_pos hm2], ?_⟩
  repeat' (first | (with_reducible exact HB.out) | (with_reducible refine Below.setCell ?_ ?_ _) | (with_reducible refine Below.alloc ?_ ?_ _) | (with_reducible refine Below.drew ?_))
  all_goals (first | omega | (simp; done) | (simp; omega))
 ·go_wp2_with fail
  refine (KC.out _).mono ?_
  rintro e w2 ⟨rfl, rfl⟩
  go_wp2_with fail
  refine bodyPost_ret (v := .tuple #[.agg #[.int .i64 (i : Int), .int .i64 1, .int .i64 c, .int .i64 0], .int .i64 0]) (by simp [results, Tryz.results60, go_sem, d0, d1, d2, d3, e0, e1, e2, e3, hlt, hlt0]) rfl ⟨by rw [HMD.out, if_neg (by simpa using h3'), if_neg (by simpa using h2')], ?_⟩
  repeat' (first | (with_reducible exact HB.out) | (with_reducible refine Below.setCell ?_ ?_ _) | (with_reducible refine Below.alloc ?_ ?_ _) | (with_reducible refine Below.drew ?_))
  all_goals (first | omega | (simp; done) | (simp; omega))
end Nc
end Go.Proofs.YtgiojagdmglinaaGreatDoor
namespace Go.Proofs.YtgiojagdmglinaaGreatDoor
open Go Go.RowKit Vote
namespace Lc
def hub (n : Nat) (h : Hb) : Hb := ⟨[cl (h.ag 0) (Wm.most n 0), cl (h.ag 1) (Wm.most n 1), cl (h.ag 2) (Wm.most n 2), cl (h.ag 3) (Wm.most n 3), cl (h.ag 4) (Wm.most n 4), cl (h.ag 5) (Wm.most n 5), cl (h.ag 6) (Wm.most n 6), cl (h.ag 7) (Wm.most n 7)], h.port % n, cl h.age (2 * n + 1), cl h.hold (2 * n), h.pos % n⟩
theorem cl_in (v m : Int) (hm : 0 ≤ m) : 0 ≤ cl v m ∧ cl v m ≤ m := by unfold cl Tal.clamp; omega
theorem hub_ag (n : Nat) (h : Hb) (p : Nat) : (hub n h).ag p = if p < 8 then cl (h.ag p) (Wm.most n p) else 0 := by
 by_cases hp : p < 8
 ·rw [if_pos hp]
  have e : p = 0 ∨ p = 1 ∨ p = 2 ∨ p = 3 ∨ p = 4 ∨ p = 5 ∨ p = 6 ∨ p = 7 := by omega
  rcases e with rfl | rfl | rfl | rfl | rfl | rfl | rfl | rfl <;> rfl
 ·rw [if_neg hp]
  unfold Hb.ag hub
  rw [List.getD_eq_getElem?_getD, List.getElem?_eq_none (by simp; omega)]
  rfl
theorem hub_right (n : Nat) (h : Hb) (h3 : 3 ≤ n) (h8 : n ≤ 8) : Wm.Right n (hub n h) where
 len := rfl
 ag := fun p hp => by
  rw [hub_ag, if_pos (by omega)]
  have := cl_in (h.ag p) (Wm.most n p) (by unfold Wm.most; split <;> omega)
  unfold Wm.most at this ⊢
  rw [if_pos hp] at this ⊢
  exact this
 no := fun p hp => by
  rw [hub_ag]
  split
  ·have := cl_in (h.ag p) (Wm.most n p) (by unfold Wm.most; split <;> omega)
   unfold Wm.most at this ⊢
   rw [if_neg (by omega)] at this ⊢
   omega
  ·rfl
 age := cl_in _ _ (by omega)
 hold := cl_in _ _ (by omega)
 port := ⟨Int.emod_nonneg _ (by omega), Int.emod_lt_of_pos _ (by omega)⟩
 pos := ⟨Int.emod_nonneg _ (by omega), Int.emod_lt_of_pos _ (by omega)⟩
theorem vclean (n : Nat) (h : Hb) (w : World) (h3 : 3 ≤ n) (h8 : n ≤ 8) : Calls Tryz.prog 87 #[.int .i64 (n : Int), .agg #[.int .i64 (h.ag 0), .int .i64 (h.ag 1), .int .i64 (h.ag 2), .int .i64 (h.ag 3), .int .i64 (h.ag 4), .int .i64 (h.ag 5), .int .i64 (h.ag 6), .int .i64 (h.ag 7), .int .i64 h.port, .int .i64 h.age, .int .i64 h.hold, .int .i64 h.pos]] w fun e w' => e = .returned (.tuple #[(hub n h).val, .int .i64 0]) ∧ Below w.heap.size w w' :=
 Vote.clean_calls n (h.ag 0) (h.ag 1) (h.ag 2) (h.ag 3) (h.ag 4) (h.ag 5) (h.ag 6) (h.ag 7) h.port h.age h.hold h.pos w h3 h8
theorem sizeHub : (Tryz.prog.info? 28).map (·.size) = some 12 := by kernel_rfl
set_option maxHeartbeats 2000000 in
theorem clean_calls (n : Nat) (h0 h1 : Hb) (w : World) (h3 : 3 ≤ n) (h8 : n ≤ 8) :
  Calls Tryz.prog 59 #[.int .i64 (n : Int), .agg #[.int .i64 (h0.ag 0), .int .i64 (h0.ag 1), .int .i64 (h0.ag 2), .int .i64 (h0.ag 3), .int .i64 (h0.ag 4), .int .i64 (h0.ag 5), .int .i64 (h0.ag 6), .int .i64 (h0.ag 7), .int .i64 h0.port, .int .i64 h0.age, .int .i64 h0.hold, .int .i64 h0.pos, .int .i64 (h1.ag 0), .int .i64 (h1.ag 1), .int .i64 (h1.ag 2), .int .i64 (h1.ag 3), .int .i64 (h1.ag 4), .int .i64 (h1.ag 5), .int .i64 (h1.ag 6), .int .i64 (h1.ag 7), .int .i64 h1.port, .int .i64 h1.age, .int .i64 h1.hold, .int .i64 h1.pos]] w fun e w' => e = .returned (.tuple #[.agg #[.int .i64 ((hub n h0).ag 0), .int .i64 ((hub n h0).ag 1), .int .i64 ((hub n h0).ag 2), .int .i64 ((hub n h0).ag 3), .int .i64 ((hub n h0).ag 4), .int .i64 ((hub n h0).ag 5), .int .i64 ((hub n h0).ag 6), .int .i64 ((hub n h0).ag 7), .int .i64 (hub n h0).port, .int .i64 (hub n h0).age, .int .i64 (hub n h0).hold, .int .i64 (hub n h0).pos, .int .i64 ((hub n h1).ag 0), .int .i64 ((hub n h1).ag 1), .int .i64 ((hub n h1).ag 2), .int .i64 ((hub n h1).ag 3), .int .i64 ((hub n h1).ag 4), .int .i64 ((hub n h1).ag 5), .int .i64 ((hub n h1).ag 6), .int .i64 ((hub n h1).ag 7), .int .i64 (hub n h1).port, .int .i64 (hub n h1).age, .int .i64 (hub n h1).hold, .int .i64 (hub n h1).pos], .int .i64 0]) ∧ Below w.heap.size w w' := by
 have kc := fun h W => vclean n h W h3 h8
 have KC := Lib.hid kc
 clear kc
 go_enter Tryz.func59, Tryz.ntmps59
 go_wp2_with fail
 have R0 := Lib.hid ((Kit.Row.newAt w #[.int .i64 (h0.ag 0), .int .i64 (h0.ag 1), .int .i64 (h0.ag 2), .int .i64 (h0.ag 3), .int .i64 (h0.ag 4), .int .i64 (h0.ag 5), .int .i64 (h0.ag 6), .int .i64 (h0.ag 7), .int .i64 h0.port, .int .i64 h0.age, .int .i64 h0.hold, .int .i64 h0.pos, .int .i64 (h1.ag 0), .int .i64 (h1.ag 1), .int .i64 (h1.ag 2), .int .i64 (h1.ag 3), .int .i64 (h1.ag 4), .int .i64 (h1.ag 5), .int .i64 (h1.ag 6), .int .i64 (h1.ag 7), .int .i64 h1.port, .int .i64 h1.age, .int .i64 h1.hold, .int .i64 h1.pos] 29 w.heap.size rfl).alloc (.cells #[.int .i64 0, .int .i64 0, .int .i64 0, .int .i64 0, .int .i64 0, .int .i64 0, .int .i64 0, .int .i64 0, .int .i64 0, .int .i64 0, .int .i64 0, .int .i64 0, .int .i64 0, .int .i64 0, .int .i64 0, .int .i64 0, .int .i64 0, .int .i64 0, .int .i64 0, .int .i64 0, .int .i64 0, .int .i64 0, .int .i64 0, .int .i64 0] 29))
 have Z0 := Lib.hid (Kit.Row.newAt (w.alloc (.cells #[.int .i64 (h0.ag 0), .int .i64 (h0.ag 1), .int .i64 (h0.ag 2), .int .i64 (h0.ag 3), .int .i64 (h0.ag 4), .int .i64 (h0.ag 5), .int .i64 (h0.ag 6), .int .i64 (h0.ag 7), .int .i64 h0.port, .int .i64 h0.age, .int .i64 h0.hold, .int .i64 h0.pos, .int .i64 (h1.ag 0), .int .i64 (h1.ag 1), .int .i64 (h1.ag 2), .int .i64 (h1.ag 3), .int .i64 (h1.ag 4), .int .i64 (h1.ag 5), .int .i64 (h1.ag 6), .int .i64 (h1.ag 7), .int .i64 h1.port, .int .i64 h1.age, .int .i64 h1.hold, .int .i64 h1.pos] 29)) #[.int .i64 0, .int .i64 0, .int .i64 0, .int .i64 0, .int .i64 0, .int .i64 0, .int .i64 0, .int .i64 0, .int .i64 0, .int .i64 0, .int .i64 0, .int .i64 0, .int .i64 0, .int .i64 0, .int .i64 0, .int .i64 0, .int .i64 0, .int .i64 0, .int .i64 0, .int .i64 0, .int .i64 0, .int .i64 0, .int .i64 0, .int .i64 0] 29 (w.heap.size + 1) (by simp))
 have HB0 := Lib.hid (((Below.refl w.heap.size w).alloc (Nat.le_refl _) (.cells #[.int .i64 (h0.ag 0), .int .i64 (h0.ag 1), .int .i64 (h0.ag 2), .int .i64 (h0.ag 3), .int .i64 (h0.ag 4), .int .i64 (h0.ag 5), .int .i64 (h0.ag 6), .int .i64 (h0.ag 7), .int .i64 h0.port, .int .i64 h0.age, .int .i64 h0.hold, .int .i64 h0.pos, .int .i64 (h1.ag 0), .int .i64 (h1.ag 1), .int .i64 (h1.ag 2), .int .i64 (h1.ag 3), .int .i64 (h1.ag 4), .int .i64 (h1.ag 5), .int .i64 (h1.ag 6), .int .i64 (h1.ag 7), .int .i64 h1.port, .int .i64 h1.age, .int .i64 h1.hold, .int .i64 h1.pos] 29)).alloc (by simp) (.cells #[.int .i64 0, .int .i64 0, .int .i64 0, .int .i64 0, .int .i64 0, .int .i64 0, .int .i64 0, .int .i64 0, .int .i64 0, .int .i64 0, .int .i64 0, .int .i64 0, .int .i64 0, .int .i64 0, .int .i64 0, .int .i64 0, .int .i64 0, .int .i64 0, .int .i64 0, .int .i64 0, .int .i64 0, .int .i64 0, .int .i64 0, .int .i64 0] 29))
 generalize (w.alloc (.cells #[.int .i64 (h0.ag 0), .int .i64 (h0.ag 1), .int .i64 (h0.ag 2), .int .i64 (h0.ag 3), .int .i64 (h0.ag 4), .int .i64 (h0.ag 5), .int .i64 (h0.ag 6), .int .i64 (h0.ag 7), .int .i64 h0.port, .int .i64 h0.age, .int .i64 h0.hold, .int .i64 h0.pos, .int .i64 (h1.ag 0), .int .i64 (h1.ag 1), .int .i64 (h1.ag 2), .int .i64 (h1.ag 3), .int .i64 (h1.ag 4), .int .i64 (h1.ag 5), .int .i64 (h1.ag 6), .int .i64 (h1.ag 7), .int .i64 h1.port, .int .i64 h1.age, .int .i64 h1.hold, .int .i64 h1.pos] 29)).alloc (.cells #[.int .i64 0, .int .i64 0, .int .i64 0, .int .i64 0, .int .i64 0, .int .i64 0, .int .i64 0, .int .i64 0, .int .i64 0, .int .i64 0, .int .i64 0, .int .i64 0, .int .i64 0, .int .i64 0, .int .i64 0, .int .i64 0, .int .i64 0, .int .i64 0, .int .i64 0, .int .i64 0, .int .i64 0, .int .i64 0, .int .i64 0, .int .i64 0] 29) = w1 at *
 go_loopw [9] (fun vi wr => ∃ k : Nat, k ≤ 2 ∧ vi = .int .i64 (k : Int) ∧ Hid ((k = 0 ∧ Kit.Row wr w.heap.size [.int .i64 (h0.ag 0), .int .i64 (h0.ag 1), .int .i64 (h0.ag 2), .int .i64 (h0.ag 3), .int .i64 (h0.ag 4), .int .i64 (h0.ag 5), .int .i64 (h0.ag 6), .int .i64 (h0.ag 7), .int .i64 h0.port, .int .i64 h0.age, .int .i64 h0.hold, .int .i64 h0.pos, .int .i64 (h1.ag 0), .int .i64 (h1.ag 1), .int .i64 (h1.ag 2), .int .i64 (h1.ag 3), .int .i64 (h1.ag 4), .int .i64 (h1.ag 5), .int .i64 (h1.ag 6), .int .i64 (h1.ag 7), .int .i64 h1.port, .int .i64 h1.age, .int .i64 h1.hold, .int .i64 h1.pos]) ∨ (k = 1 ∧ Kit.Row wr w.heap.size [.int .i64 ((hub n h0).ag 0), .int .i64 ((hub n h0).ag 1), .int .i64 ((hub n h0).ag 2), .int .i64 ((hub n h0).ag 3), .int .i64 ((hub n h0).ag 4), .int .i64 ((hub n h0).ag 5), .int .i64 ((hub n h0).ag 6), .int .i64 ((hub n h0).ag 7), .int .i64 (hub n h0).port, .int .i64 (hub n h0).age, .int .i64 (hub n h0).hold, .int .i64 (hub n h0).pos, .int .i64 (h1.ag 0), .int .i64 (h1.ag 1), .int .i64 (h1.ag 2), .int .i64 (h1.ag 3), .int .i64 (h1.ag 4), .int .i64 (h1.ag 5), .int .i64 (h1.ag 6), .int .i64 (h1.ag 7), .int .i64 h1.port, .int .i64 h1.age, .int .i64 h1.hold, .int .i64 h1.pos]) ∨ (k = 2 ∧ Kit.Row wr w.heap.size [.int .i64 ((hub n h0).ag 0), .int .i64 ((hub n h0).ag 1), .int .i64 ((hub n h0).ag 2), .int .i64 ((hub n h0).ag 3), .int .i64 ((hub n h0).ag 4), .int .i64 ((hub n h0).ag 5), .int .i64 ((hub n h0).ag 6), .int .i64 ((hub n h0).ag 7), .int .i64 (hub n h0).port, .int .i64 (hub n h0).age, .int .i64 (hub n h0).hold, .int .i64 (hub n h0).pos, .int .i64 ((hub n h1).ag 0), .int .i64 ((hub n h1).ag 1), .int .i64 ((hub n h1).ag 2), .int .i64 ((hub n h1).ag 3), .int .i64 ((hub n h1).ag 4), .int .i64 ((hub n h1).ag 5), .int .i64 ((hub n h1).ag 6), .int .i64 ((hub n h1).ag 7), .int .i64 (hub n h1).port, .int .i64 (hub n h1).age, .int .i64 (hub n h1).hold, .int .i64 (hub n h1).pos])) ∧ Hid (Kit.Row wr (w.heap.size + 1) [.int .i64 0, .int .i64 0, .int .i64 0, .int .i64 0, .int .i64 0, .int .i64 0, .int .i64 0, .int .i64 0, .int .i64 0, .int .i64 0, .int .i64 0, .int .i64 0, .int .i64 0, .int .i64 0, .int .i64 0, .int .i64 0, .int .i64 0, .int .i64 0, .int .i64 0, .int .i64 0, .int .i64 0, .int .i64 0, .int .i64 0, .int .i64 0]) ∧ Hid (Below w.heap.size w wr)) (fun vi _ => 2 - (intOf vi).toNat)
 case atStart => exact ⟨0, by omega, rfl, Lib.hid (Or.inl ⟨rfl, R0.out⟩), Z0, HB0⟩
 case round =>
  obtain ⟨k, hk, rfl, HR, RZ, HB⟩ := hrel
  rcases HR.out with ⟨rfl, r⟩ | ⟨rfl, r⟩ | ⟨rfl, r⟩
  ·have RR := Lib.hid r
   clear r HR R0 Z0 HB0
   go_upto_region 4 with fail
   iterate 10 (first | go_guarded | go_step | go_upon | go_back)
   refine Kit.wpList_load_row rfl 28 (.tmp 15) rfl w.heap.size 0 rfl RR.out [.int .i64 (h0.ag 0), .int .i64 (h0.ag 1), .int .i64 (h0.ag 2), .int .i64 (h0.ag 3), .int .i64 (h0.ag 4), .int .i64 (h0.ag 5), .int .i64 (h0.ag 6), .int .i64 (h0.ag 7), .int .i64 h0.port, .int .i64 h0.age, .int .i64 h0.hold, .int .i64 h0.pos] rfl _ Tryz.underlying28 rfl sizeHub ?_
   go_wp2_with fail
   refine (KC.out h0 _).mono ?_
   rintro e w2 ⟨rfl, hb⟩
   have R2 := Lib.hid (RR.out.below hb)
   have Z2 := Lib.hid (RZ.out.below hb)
   have HB2 := Lib.hid (HB.out.trans (hb.mono HB.out.size))
   clear hb RR RZ HB
   unfold Hb.val
   dsimp only
   iterate 13 (first | go_guarded | go_step | go_upon | go_back)
   refine Kit.wpList_store_row rfl 28 (.tmp 7) (.tmp 18) rfl w2.heap.size 0 #[.int .i64 ((hub n h0).ag 0), .int .i64 ((hub n h0).ag 1), .int .i64 ((hub n h0).ag 2), .int .i64 ((hub n h0).ag 3), .int .i64 ((hub n h0).ag 4), .int .i64 ((hub n h0).ag 5), .int .i64 ((hub n h0).ag 6), .int .i64 ((hub n h0).ag 7), .int .i64 (hub n h0).port, .int .i64 (hub n h0).age, .int .i64 (hub n h0).hold, .int .i64 (hub n h0).pos] rfl rfl (Kit.Row.newAt w2 #[.int .i64 0, .int .i64 0, .int .i64 0, .int .i64 0, .int .i64 0, .int .i64 0, .int .i64 0, .int .i64 0, .int .i64 0, .int .i64 0, .int .i64 0, .int .i64 0] 28 _ rfl) (by simp) sizeHub (by first | rfl | (simp [Value.oneCell']; done) | decide) ?_
   intro w3 hW
   have R7 := Lib.hid (Kit.Row.all (Kit.Row.newAt w2 #[.int .i64 0, .int .i64 0, .int .i64 0, .int .i64 0, .int .i64 0, .int .i64 0, .int .i64 0, .int .i64 0, .int .i64 0, .int .i64 0, .int .i64 0, .int .i64 0] 28 _ rfl) hW rfl)
   have bb := Kit.below_of ((Below.refl w2.heap.size w2).alloc (Nat.le_refl _) (.cells #[.int .i64 0, .int .i64 0, .int .i64 0, .int .i64 0, .int .i64 0, .int .i64 0, .int .i64 0, .int .i64 0, .int .i64 0, .int .i64 0, .int .i64 0, .int .i64 0] 28)) hW (Nat.le_refl _)
   have R3 := Lib.hid (R2.out.below bb)
   have Z3 := Lib.hid (Z2.out.below bb)
   have HB3 := Lib.hid (HB2.out.trans (bb.mono HB2.out.size))
   have ltK : w.heap.size < w2.heap.size := R2.out.lt
   have ltZ : w.heap.size + 1 < w2.heap.size := Z2.out.lt
   clear hW bb R2 Z2 HB2
   generalize w2.heap.size = B at *
   go_upto_region 7 with fail
   iterate 4 (first | go_guarded | go_step | go_upon | go_back)
   refine Kit.wpList_load_row rfl 28 (.tmp 7) rfl B 0 rfl R7.out [.int .i64 ((hub n h0).ag 0), .int .i64 ((hub n h0).ag 1), .int .i64 ((hub n h0).ag 2), .int .i64 ((hub n h0).ag 3), .int .i64 ((hub n h0).ag 4), .int .i64 ((hub n h0).ag 5), .int .i64 ((hub n h0).ag 6), .int .i64 ((hub n h0).ag 7), .int .i64 (hub n h0).port, .int .i64 (hub n h0).age, .int .i64 (hub n h0).hold, .int .i64 (hub n h0).pos] rfl _ Tryz.underlying28 rfl sizeHub ?_
   dsimp only
   iterate 3 (first | go_guarded | go_step | go_upon | go_back)
   refine Kit.wpList_store_row rfl 28 (.tmp 26) (.tmp 25) rfl w.heap.size 0 #[.int .i64 ((hub n h0).ag 0), .int .i64 ((hub n h0).ag 1), .int .i64 ((hub n h0).ag 2), .int .i64 ((hub n h0).ag 3), .int .i64 ((hub n h0).ag 4), .int .i64 ((hub n h0).ag 5), .int .i64 ((hub n h0).ag 6), .int .i64 ((hub n h0).ag 7), .int .i64 (hub n h0).port, .int .i64 (hub n h0).age, .int .i64 (hub n h0).hold, .int .i64 (hub n h0).pos] rfl rfl R3.out (by simp) sizeHub (by first | rfl | (simp [Value.oneCell']; done) | decide) ?_
   intro w4 hW
   have R4 : Hid (Kit.Row w4 w.heap.size [.int .i64 ((hub n h0).ag 0), .int .i64 ((hub n h0).ag 1), .int .i64 ((hub n h0).ag 2), .int .i64 ((hub n h0).ag 3), .int .i64 ((hub n h0).ag 4), .int .i64 ((hub n h0).ag 5), .int .i64 ((hub n h0).ag 6), .int .i64 ((hub n h0).ag 7), .int .i64 (hub n h0).port, .int .i64 (hub n h0).age, .int .i64 (hub n h0).hold, .int .i64 (hub n h0).pos, .int .i64 (h1.ag 0), .int .i64 (h1.ag 1), .int .i64 (h1.ag 2), .int .i64 (h1.ag 3), .int .i64 (h1.ag 4), .int .i64 (h1.ag 5), .int .i64 (h1.ag 6), .int .i64 (h1.ag 7), .int .i64 h1.port, .int .i64 h1.age, .int .i64 h1.hold, .int .i64 h1.pos]) := Lib.hid ((R3.out.on hW (by simp)).cast rfl)
   have Z4 := Lib.hid (Z3.out.off hW (by omega))
   have HB4 := Lib.hid (Kit.below_of HB3.out hW (Nat.le_refl _))
   clear hW R3 Z3 HB3 R7
   go_wp2_with fail
   go_roundw
   case rel => exact ⟨1, by omega, by go_num, Lib.hid (by exact Or.inr (Or.inl ⟨rfl, R4.out⟩)), Z4, HB4⟩
   case measure => simp [intOf]
  ·have RR := Lib.hid r
   clear r HR R0 Z0 HB0
   go_upto_region 4 with fail
   iterate 10 (first | go_guarded | go_step | go_upon | go_back)
   refine Kit.wpList_load_row rfl 28 (.tmp 15) rfl w.heap.size 12 rfl RR.out [.int .i64 (h1.ag 0), .int .i64 (h1.ag 1), .int .i64 (h1.ag 2), .int .i64 (h1.ag 3), .int .i64 (h1.ag 4), .int .i64 (h1.ag 5), .int .i64 (h1.ag 6), .int .i64 (h1.ag 7), .int .i64 h1.port, .int .i64 h1.age, .int .i64 h1.hold, .int .i64 h1.pos] rfl _ Tryz.underlying28 rfl sizeHub ?_
   go_wp2_with fail
   refine (KC.out h1 _).mono ?_
   rintro e w2 ⟨rfl, hb⟩
   have R2 := Lib.hid (RR.out.below hb)
   have Z2 := Lib.hid (RZ.out.below hb)
   have HB2 := Lib.hid (HB.out.trans (hb.mono HB.out.size))
   clear hb RR RZ HB
   unfold Hb.val
   dsimp only
   iterate 13 (first | go_guarded | go_step | go_upon | go_back)
   refine Kit.wpList_store_row rfl 28 (.tmp 7) (.tmp 18) rfl w2.heap.size 0 #[.int .i64 ((hub n h1).ag 0), .int .i64 ((hub n h1).ag 1), .int .i64 ((hub n h1).ag 2), .int .i64 ((hub n h1).ag 3), .int .i64 ((hub n h1).ag 4), .int .i64 ((hub n h1).ag 5), .int .i64 ((hub n h1).ag 6), .int .i64 ((hub n h1).ag 7), .int .i64 (hub n h1).port, .int .i64 (hub n h1).age, .int .i64 (hub n h1).hold, .int .i64 (hub n h1).pos] rfl rfl (Kit.Row.newAt w2 #[.int .i64 0, .int .i64 0, .int .i64 0, .int .i64 0, .int .i64 0, .int .i64 0, .int .i64 0, .int .i64 0, .int .i64 0, .int .i64 0, .int .i64 0, .int .i64 0] 28 _ rfl) (by simp) sizeHub (by first | rfl | (simp [Value.oneCell']; done) | decide) ?_
   intro w3 hW
   have R7 := Lib.hid (Kit.Row.all (Kit.Row.newAt w2 #[.int .i64 0, .int .i64 0, .int .i64 0, .int .i64 0, .int .i64 0, .int .i64 0, .int .i64 0, .int .i64 0, .int .i64 0, .int .i64 0, .int .i64 0, .int .i64 0] 28 _ rfl) hW rfl)
   have bb := Kit.below_of ((Below.refl w2.heap.size w2).alloc (Nat.le_refl _) (.cells #[.int .i64 0, .int .i64 0, .int .i64 0, .int .i64 0, .int .i64 0, .int .i64 0, .int .i64 0, .int .i64 0, .int .i64 0, .int .i64 0, .int .i64 0, .int .i64 0] 28)) hW (Nat.le_refl _)
   have R3 := Lib.hid (R2.out.below bb)
   have Z3 := Lib.hid (Z2.out.below bb)
   have HB3 := Lib.hid (HB2.out.trans (bb.mono HB2.out.size))
   have ltK : w.heap.size < w2.heap.size := R2.out.lt
   have ltZ : w.heap.size + 1 < w2.heap.size := Z2.out.lt
   clear hW bb R2 Z2 HB2
   generalize w2.heap.size = B at *
   go_upto_region 7 with fail
   iterate 4 (first | go_guarded | go_step | go_upon | go_back)
   refine Kit.wpList_load_row rfl 28 (.tmp 7) rfl B 0 rfl R7.out [.int .i64 ((hub n h1).ag 0), .int .i64 ((hub n h1).ag 1), .int .i64 ((hub n h1).ag 2), .int .i64 ((hub n h1).ag 3), .int .i64 ((hub n h1).ag 4), .int .i64 ((hub n h1).ag 5), .int .i64 ((hub n h1).ag 6), .int .i64 ((hub n h1).ag 7), .int .i64 (hub n h1).port, .int .i64 (hub n h1).age, .int .i64 (hub n h1).hold, .int .i64 (hub n h1).pos] rfl _ Tryz.underlying28 rfl sizeHub ?_
   dsimp only
   iterate 3 (first | go_guarded | go_step | go_upon | go_back)
   refine Kit.wpList_store_row rfl 28 (.tmp 26) (.tmp 25) rfl w.heap.size 12 #[.int .i64 ((hub n h1).ag 0), .int .i64 ((hub n h1).ag 1), .int .i64 ((hub n h1).ag 2), .int .i64 ((hub n h1).ag 3), .int .i64 ((hub n h1).ag 4), .int .i64 ((hub n h1).ag 5), .int .i64 ((hub n h1).ag 6), .int .i64 ((hub n h1).ag 7), .int .i64 (hub n h1).port, .int .i64 (hub n h1).age, .int .i64 (hub n h1).hold, .int .i64 (hub n h1).pos] rfl rfl R3.out (by simp) sizeHub (by first | rfl | (simp [Value.oneCell']; done) | decide) ?_
   intro w4 hW
   have R4 : Hid (Kit.Row w4 w.heap.size [.int .i64 ((hub n h0).ag 0), .int .i64 ((hub n h0).ag 1), .int .i64 ((hub n h0).ag 2), .int .i64 ((hub n h0).ag 3), .int .i64 ((hub n h0).ag 4), .int .i64 ((hub n h0).ag 5), .int .i64 ((hub n h0).ag 6), .int .i64 ((hub n h0).ag 7), .int .i64 (hub n h0).port, .int .i64 (hub n h0).age, .int .i64 (hub n h0).hold, .int .i64 (hub n h0).pos, .int .i64 ((hub n h1).ag 0), .int .i64 ((hub n h1).ag 1), .int .i64 ((hub n h1).ag 2), .int .i64 ((hub n h1).ag 3), .int .i64 ((hub n h1).ag 4), .int .i64 ((hub n h1).ag 5), .int .i64 ((hub n h1).ag 6), .int .i64 ((hub n h1).ag 7), .int .i64 (hub n h1).port, .int .i64 (hub n h1).age, .int .i64 (hub n h1).hold, .int .i64 (hub n h1).pos]) := Lib.hid ((R3.out.on hW (by simp)).cast rfl)
   have Z4 := Lib.hid (Z3.out.off hW (by omega))
   have HB4 := Lib.hid (Kit.below_of HB3.out hW (Nat.le_refl _))
   clear hW R3 Z3 HB3 R7
   go_wp2_with fail
   go_roundw
   case rel => exact ⟨2, by omega, by go_num, Lib.hid (by exact Or.inr (Or.inr ⟨rfl, R4.out⟩)), Z4, HB4⟩
   case measure => simp [intOf]
  ·have RR := Lib.hid r
   clear r HR R0 Z0 HB0
   go_upto_region 9 with fail
   go_step
   refine Kit.wpList_load_row rfl 29 (.tmp 3) rfl w.heap.size 0 rfl RR.out [.int .i64 ((hub n h0).ag 0), .int .i64 ((hub n h0).ag 1), .int .i64 ((hub n h0).ag 2), .int .i64 ((hub n h0).ag 3), .int .i64 ((hub n h0).ag 4), .int .i64 ((hub n h0).ag 5), .int .i64 ((hub n h0).ag 6), .int .i64 ((hub n h0).ag 7), .int .i64 (hub n h0).port, .int .i64 (hub n h0).age, .int .i64 (hub n h0).hold, .int .i64 (hub n h0).pos, .int .i64 ((hub n h1).ag 0), .int .i64 ((hub n h1).ag 1), .int .i64 ((hub n h1).ag 2), .int .i64 ((hub n h1).ag 3), .int .i64 ((hub n h1).ag 4), .int .i64 ((hub n h1).ag 5), .int .i64 ((hub n h1).ag 6), .int .i64 ((hub n h1).ag 7), .int .i64 (hub n h1).port, .int .i64 (hub n h1).age, .int .i64 (hub n h1).hold, .int .i64 (hub n h1).pos] rfl _ Tryz.underlying29 rfl Link.sizeHubs ?_
   refine Kit.wpList_store_row rfl 29 (.tmp 4) (.tmp 28) rfl (w.heap.size + 1) 0 #[.int .i64 ((hub n h0).ag 0), .int .i64 ((hub n h0).ag 1), .int .i64 ((hub n h0).ag 2), .int .i64 ((hub n h0).ag 3), .int .i64 ((hub n h0).ag 4), .int .i64 ((hub n h0).ag 5), .int .i64 ((hub n h0).ag 6), .int .i64 ((hub n h0).ag 7), .int .i64 (hub n h0).port, .int .i64 (hub n h0).age, .int .i64 (hub n h0).hold, .int .i64 (hub n h0).pos, .int .i64 ((hub n h1).ag 0), .int .i64 ((hub n h1).ag 1), .int .i64 ((hub n h1).ag 2), .int .i64 ((hub n h1).ag 3), .int .i64 ((hub n h1).ag 4), .int .i64 ((hub n h1).ag 5), .int .i64 ((hub n h1).ag 6), .int .i64 ((hub n h1).ag 7), .int .i64 (hub n h1).port, .int .i64 (hub n h1).age, .int .i64 (hub n h1).hold, .int .i64 (hub n h1).pos] rfl rfl RZ.out (by simp) Link.sizeHubs (by first | rfl | (simp [Value.oneCell']; done) | decide) ?_
   intro W hW
   have RF := Lib.hid (RZ.out.all hW rfl)
   have HF := Lib.hid (Kit.below_of HB.out hW (by omega))
   clear hW RZ RR HB
   go_wp2_with fail
   exact bodyPost_ret (Kit.res_ct Tryz.results59 _ _ (Kit.Var.mk' RF.out Tryz.underlying29 rfl Link.sizeHubs)) rfl ⟨rfl, HF.out⟩
end Lc
end Go.Proofs.YtgiojagdmglinaaGreatDoor
