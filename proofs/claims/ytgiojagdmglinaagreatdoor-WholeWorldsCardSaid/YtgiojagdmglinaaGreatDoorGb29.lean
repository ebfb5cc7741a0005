/-
  Part 29 of a merged text.
-/
import Derived.Test.YtgiojagdmglinaaGreatDoorGb28
set_option linter.unusedVariables false
set_option linter.unusedSimpArgs false
set_option maxRecDepth 100000
namespace Go.Proofs.YtgiojagdmglinaaGreatDoor
open Go Go.RowKit
namespace Sw
theorem lookInfo : (Tryz.prog.info? 48).map (fun i => (i.zero, i.size, i.bytes)) = some (some (.agg #[.int .i64 0, .int .i64 0, .int .i64 0, .int .i64 0, .int .i64 0, .slice none 0 0]), 6, 64) := by kernel_rfl
theorem mk_looks (tn : Nat) (h : tn ≤ 1000000) (W : World) : (Instr.makeSlice 40 (.int .i64 0) (.int .i64 (tn : Int))).run Tryz.prog W = .ok (.slice (some ⟨W.heap.size, 0, none⟩) 0 tn) (W.alloc (.cells (madeCells #[Value.int .i64 0, Value.int .i64 0, Value.int .i64 0, Value.int .i64 0, Value.int .i64 0, .slice none 0 0] (tn * 6)) 48)) := by
 obtain ⟨i0, hi, hz0, hz1, hz2⟩ := info_parts lookInfo
 have hr := run_make (P := Tryz.prog) W 40 48 i0 _ Tryz.underlying40 hi hz0 .i64 .i64 0 tn (by omega) (by omega) (by rw [hz2]; omega) (by omega)
 simp only [Int.toNat_natCast, Int.toNat_zero, hz1] at hr
 exact hr
theorem own_looks (tn : Nat) (h : tn ≤ 1000000) (W : World) (base : Nat) (hb : base ≤ W.heap.size) : (W.alloc (.cells (madeCells #[Value.int .i64 0, Value.int .i64 0, Value.int .i64 0, Value.int .i64 0, Value.int .i64 0, .slice none 0 0] (tn * 6)) 48)).ownsRow base 48 6 (.slice (some ⟨W.heap.size, 0, none⟩) 0 tn) 0 [] :=
 ⟨rfl, .inr ⟨W.heap.size, tn, _, rfl, hb, heap_alloc_new W _, by omega, by unfold maxLen; omega, by simp [madeCells], by simp⟩⟩
theorem Mem.put {w3 : World} {x : Wd} {l : List Ch} {B : Bx} {bs : List Nat} {W : World} {ads : List (Nat × Nat)} {v : Value} {r : Nat} {o : Obj} (o' : Obj) (h : Mem w3 x l B bs W ads v) (hl : W.heap[r]? = some o) (ho : o.isCells = false) (hw : w3.heap.size ≤ r) : Mem w3 x l B bs (W.putObj r o') ads v :=
 ⟨h.core.put o' hl ho hw, row_put o' h.r5 (by simp [Wd.cells]) hl ho, row_put o' h.r7 (by simp) hl ho, row_put o' h.rl (by simp) hl ho⟩
theorem Mem.below {w3 : World} {x : Wd} {l : List Ch} {B : Bx} {bs : List Nat} {W W' : World} {ads : List (Nat × Nat)} {v : Value} (h : Mem w3 x l B bs W ads v) (hb : Below W.heap.size W W') : Mem w3 x l B bs W' ads v :=
 ⟨h.core.below hb, h.r5.below hb, h.r7.below hb, h.rl.below hb⟩
theorem trans_some' {a b c : World} {row : Option Nat} (h : a.grownBy b none) (k : b.grownBy c row) : a.grownBy c row := ⟨k.os.trans h.os, k.tape.trans h.tape, k.output.trans h.output, Nat.le_trans h.size k.size, fun i hi hne => (k.block i (Nat.lt_of_lt_of_le hi h.size) hne).trans (h.block i hi (by simp))⟩
theorem grown_drew (W : World) : W.grownBy W.drew none := ⟨rfl, rfl, rfl, Nat.le_refl _, fun _ _ _ => rfl⟩
theorem Mem.drew {w3 : World} {x : Wd} {l : List Ch} {B : Bx} {bs : List Nat} {W : World} {ads : List (Nat × Nat)} {v : Value} (h : Mem w3 x l B bs W ads v) : Mem w3 x l B bs W.drew ads v :=
 ⟨h.core.kept (grown_drew W) (fun r e => by cases e), h.r5.drew, h.r7.drew, h.rl.drew⟩
theorem own_cells {W : World} {base size : Nat} {e : TypeId} {v : Value} {n : Nat} {xs : List Value} (h : W.ownsRow base e size v n xs) (j : Nat) (o : Obj) (hj : v.ownBlock = some j) (ho : W.heap[j]? = some o) : o.isCells = true := by
 rcases h.2 with ⟨rfl, _⟩ | ⟨g, cap, cur, rfl, hb, hgg, _⟩
 ·simp [Value.ownBlock] at hj
 ·have : g = j := by simpa [Value.ownBlock] using hj
  subst this
  rw [hgg] at ho
  injection ho with ho
  subst ho
  rfl
theorem news_look (W : World) (q : Lk) : ∀ j u, [.int .i64 q.tick, .int .i64 q.r0.k, .int .i64 q.r0.i, .int .i64 q.r1.k, .int .i64 q.r1.i, .slice q.at_ q.n q.cap][j]? = some u → (W.alloc (.cells #[.int .i64 q.tick, .int .i64 q.r0.k, .int .i64 q.r0.i, .int .i64 q.r1.k, .int .i64 q.r1.i, .slice q.at_ q.n q.cap] 48)).cell? ((⟨W.heap.size, 0, none⟩ : Addr).add j) = some u := World.news_of_block (heap_alloc_new W _)
theorem Lies.same {w w' : World} {A : Option Addr} {n k : Nat} {cs : List (List Value)} (h : Lies w A n k cs) (hs : w.heap.size ≤ w'.heap.size) (hb : ∀ b o, A = some ⟨b, o, none⟩ → b < w.heap.size → w'.heap[b]? = w.heap[b]?) : Lies w' A n k cs where
 len := h.len
 at_ := fun hn => by
  obtain ⟨b, off, e, hlt, hc⟩ := h.at_ hn
  exact ⟨b, off, e, Nat.lt_of_lt_of_le hlt hs, fun j c hj i v hi => (World.cell?_of_block (hb b off e hlt)).trans (hc j c hj i v hi)⟩
theorem wat_fits {x : Wd} (hx : x.Right) (l : List Ch) (k : Nat) : ∀ z ∈ (wat x l k).nodes, z.fits := by
 intro z hz
 have hr := wat_right hx l k
 obtain ⟨i, hi⟩ := List.getElem?_of_mem hz
 have hil := (List.getElem?_eq_some_iff.1 hi).1
 have h1 := hr.nd i (by rw [← hr.nl]; exact hil)
 have e : ndAt (wat x l k).nodes i = z := by unfold ndAt; rw [List.getD_eq_getElem?_getD, hi]; rfl
 rw [e] at h1
 have h8 := hr.hi
 exact ⟨by have := h1.ps; omega, by have := h1.ps; omega, by have := h1.md; omega, by have := h1.md; omega⟩
theorem sent_fits {n : Nat} {f : Fr} (h8 : n ≤ 8) (h : Wm.Sent n f) : f.fits := by
 rcases h with rfl | ⟨p, hp, rfl | rfl⟩
 ·exact ⟨by decide, by decide, by decide, by decide⟩
 ·exact ⟨by show (-9223372036854775808 : Int) ≤ 1; omega, by show (1 : Int) ≤ 9223372036854775807; omega, by show (-9223372036854775808 : Int) ≤ p; omega, by show (p : Int) ≤ 9223372036854775807; omega⟩
 ·exact ⟨by show (-9223372036854775808 : Int) ≤ 2; omega, by show (2 : Int) ≤ 9223372036854775807; omega, by show (-9223372036854775808 : Int) ≤ p; omega, by show (p : Int) ≤ 9223372036854775807; omega⟩
theorem flat_len (q : List Lk) : (flat q).length = q.length * 6 := by
 induction q with
 | nil => rfl
 | cons a l ih =>
  have : flat (a :: l) = a.cells ++ flat l := by simp [flat]
  rw [this, List.length_append, ih, show a.cells.length = 6 from rfl, List.length_cons]
  omega
def Away (N : Nat) (A : Option Addr) (q : List Lk) : Prop := (∀ b o, A = some ⟨b, o, none⟩ → N ≤ b) ∧ ∀ z ∈ q, ∀ b o, z.at_ = some ⟨b, o, none⟩ → N ≤ b
theorem Away.mono {N M : Nat} {A : Option Addr} {q : List Lk} (h : Away N A q) (hm : M ≤ N) : Away M A q := ⟨fun b o e => Nat.le_trans hm (h.1 b o e), fun z hz b o e => Nat.le_trans hm (h.2 z hz b o e)⟩
theorem looks_grown {w w' : World} {A : Option Addr} {n N k : Nat} {q : List Lk} (h : Looks w A n q) (ha : Away N A q) (hk : k < N) (hg : w.grownBy w' (some k)) : Looks w' A n q where
 lies := Lies.same h.lies hg.size (fun b o e hb => hg.block b hb (fun e2 => by injection e2 with e2; have := ha.1 b o e; omega))
 there := fun z hz => by
  have hz2 := h.there z hz
  exact ⟨hz2.tick, hz2.f0, hz2.f1, hz2.most, Lies.same hz2.nodes hg.size (fun b o e hb => hg.block b hb (fun e2 => by injection e2 with e2; have := ha.2 z hz b o e; omega)), hz2.fits⟩
theorem looks_set {w : World} {A : Option Addr} {n N : Nat} {q : List Lk} (h : Looks w A n q) (ha : Away N A q) (k o : Nat) (v : Value) (hk : k < N) : Looks (w.setCell ⟨k, o, none⟩ v) A n q := looks_grown h ha hk (grown_set w k o v)
theorem looks_there {w3 : World} {x : Wd} {l : List Ch} {W : World} {ads : List (Nat × Nat)} {v : Value} {base : Nat} (hx : x.Right) (h : W.ownsRow base 48 6 v ads.length (flat (lks x l ads)))
  (hn : ∀ j p, ads[j]? = some p → W.ownsRow base 60 4 (.slice (some ⟨p.1, 0, none⟩) x.n p.2) x.n (Cl.cells (wat x l (j + 1)).nodes)) : ∃ A cap, v = .slice A ads.length cap ∧ Looks W A ads.length (lks x l ads) ∧ Away base A (lks x l ads) := by
 have haw : ∀ z ∈ lks x l ads, ∀ b o, z.at_ = some ⟨b, o, none⟩ → base ≤ b := by
  intro z hz b o e
  obtain ⟨j, hj⟩ := List.getElem?_of_mem hz
  unfold lks at hj
  rw [List.getElem?_mapIdx] at hj
  obtain ⟨p, hp, rfl⟩ := Option.map_eq_some_iff.1 hj
  have h1 := (own_lt' (hn j p hp) p.1 rfl).1
  have e' : (some ⟨p.1, 0, none⟩ : Option Addr) = some ⟨b, o, none⟩ := e
  injection e' with e'
  injection e' with e1 _ _
  omega
 have hthere : ∀ z ∈ lks x l ads, z.There W := by
  intro z hz
  obtain ⟨j, hj⟩ := List.getElem?_of_mem hz
  unfold lks at hj
  rw [List.getElem?_mapIdx] at hj
  obtain ⟨p, hp, rfl⟩ := Option.map_eq_some_iff.1 hj
  have hr := wat_right hx l j
  have hh := hubs_right hr (l.getD j default)
  have h8 := hr.hi
  have ht := hr.tick
  have hx8 := hx.hi
  exact ⟨⟨by show -9223372036854775808 ≤ (wat x l j).tick; unfold Wm.mostCount at ht; omega, by show (wat x l j).tick ≤ 9223372036854775807; unfold Wm.mostCount at ht; omega⟩, sent_fits h8 hh.1.2, sent_fits h8 hh.2.2, by show x.n ≤ maxLen; unfold maxLen; omega, Tk.own_nodes (hn j p hp) (by have := (wat_right hx l (j + 1)).nl; rw [wat_n] at this; exact this), wat_fits hx l (j + 1)⟩
 rcases Nat.eq_zero_or_pos ads.length with h0 | h0
 ·rcases h.2 with ⟨rfl, _⟩ | ⟨g, cap, cur, rfl, hbg, _⟩
  ·exact ⟨none, 0, by rw [h0], ⟨⟨by rw [List.length_map, lks_len], fun hp => absurd hp (by omega)⟩, hthere⟩, fun b o e => (by cases e), haw⟩
  ·exact ⟨_, cap, rfl, ⟨⟨by rw [List.length_map, lks_len], fun hp => absurd hp (by omega)⟩, hthere⟩, fun b o e => (by injection e with e; injection e with e1 _ _; omega), haw⟩
 ·obtain ⟨g, cap, rfl, hbg, hg⟩ := h.form h0
  refine ⟨_, cap, rfl, ⟨⟨by rw [List.length_map, lks_len], fun _ => ⟨g, 0, rfl, hg, fun j c hj i v hv => ?_⟩⟩, hthere⟩, fun b o e => (by injection e with e; injection e with e1 _ _; omega), haw⟩
  have hk : ∀ c ∈ (lks x l ads).map Lk.cells, c.length = 6 := by
   intro c hc
   obtain ⟨x, _, rfl⟩ := List.mem_map.1 hc
   rfl
  have h1 : (flat (lks x l ads))[j * 6 + i]? = some v := flat_get 6 _ hk j c hj i v hv
  have hlt : j * 6 + i < ads.length * 6 := by have := (List.getElem?_eq_some_iff.1 h1).1; rw [flat_len, lks_len] at this; exact this
  rw [Nat.zero_add, h.cellAt _ hlt]
  exact h1
theorem now_there {w3 : World} {x : Wd} {l : List Ch} {W : World} {ads : List (Nat × Nat)} {base : Nat} (hx : x.Right) (hp : Whole W x.pa x.n x.power) (hm : Nodes W x.na x.n x.nodes)
  (hn : ∀ j p, ads[j]? = some p → W.ownsRow base 60 4 (.slice (some ⟨p.1, 0, none⟩) x.n p.2) x.n (Cl.cells (wat x l (j + 1)).nodes)) : (now x l ads).There W where
 power := by
  have : Whole W (now x l ads).pa (now x l ads).n (now x l ads).power := by
   rw [now_n]
   unfold now
   split
   ·rw [wat_pa, wat_power]; exact hp
   ·show Whole W (wat x l ads.length).pa x.n (wat x l ads.length).power
    rw [wat_pa, wat_power]; exact hp
  exact this
 nodes := by
  rw [now_n]
  by_cases h0 : ads = []
  ·subst h0
   exact hm
  ·obtain ⟨q, p, rfl⟩ : ∃ q p, ads = q ++ [p] := ⟨ads.dropLast, ads.getLast h0, (List.dropLast_concat_getLast h0).symm⟩
   rw [now_snoc]
   have h1 := hn q.length p (by rw [List.getElem?_append_right (Nat.le_refl _)]; simp)
   exact Tk.own_nodes h1 (by have := (wat_right hx l (q.length + 1)).nl; rw [wat_n] at this; exact this)
def Vars (w3 : World) (x : Wd) (l : List Ch) (B : Bx) (b8 b9 : Nat) (d : Rd) (W : World) : Prop := ∃ v, Mem w3 x l B [b9, b8, d.2.2, B.bw, B.bl, B.b7, B.b5] W d.1 v ∧ Kit.Row W B.bw (now x l d.1).cells ∧ Kit.Row W d.2.2 (now x l (d.1 ++ [d.2.1])).cells ∧
 W.ownsRow (w3.heap.size + 1) 60 4 (.slice (some ⟨d.2.1.1, 0, none⟩) x.n d.2.1.2) x.n (Cl.cells (wat x l (d.1.length + 1)).nodes) ∧ d.2.1.1 ∉ [b9, b8, d.2.2, B.bw, B.bl, B.b7, B.b5] ∧ v.ownBlock ≠ some d.2.1.1 ∧
 Kit.Row W b8 (now x l (d.1 ++ [d.2.1])).cells ∧ Kit.Row W b9 (lkAt x l d.1.length d.2.1).cells ∧ (B.b5 < d.2.2 ∧ B.b7 < d.2.2 ∧ B.bl < d.2.2 ∧ B.bw < d.2.2) ∧ d.2.2 < b8 ∧ b8 < b9
set_option maxHeartbeats 2000000 in
theorem all_of (s : Sc) (X : Wd → Prop) (w : World) (hl : Chs w s.ta s.tn s.ticks) (hm : s.tn ≤ 1000000)
  (hnew : ∀ W, Below w.heap.size w W → Calls Tryz.prog 12 #[.agg #[.int .i64 s.n, .slice s.pa s.pn s.pc, .int .i64 s.c, .int .i64 s.v, .bool s.ld, .slice s.na s.nn s.nc, .int .i64 (s.h0.ag 0), .int .i64 (s.h0.ag 1), .int .i64 (s.h0.ag 2), .int .i64 (s.h0.ag 3), .int .i64 (s.h0.ag 4), .int .i64 (s.h0.ag 5), .int .i64 (s.h0.ag 6), .int .i64 (s.h0.ag 7), .int .i64 s.h0.port, .int .i64 s.h0.age, .int .i64 s.h0.hold, .int .i64 s.h0.pos, .int .i64 (s.h1.ag 0), .int .i64 (s.h1.ag 1), .int .i64 (s.h1.ag 2), .int .i64 (s.h1.ag 3), .int .i64 (s.h1.ag 4), .int .i64 (s.h1.ag 5), .int .i64 (s.h1.ag 6), .int .i64 (s.h1.ag 7), .int .i64 s.h1.port, .int .i64 s.h1.age, .int .i64 s.h1.hold, .int .i64 s.h1.pos, .slice s.ta s.tn s.tc]] W fun e w' => ∃ x : Wd, X x ∧ x.Right ∧ e = .returned (.tuple #[.agg x.cells.toArray, .int .i64 0]) ∧ x.There w' ∧ (∀ b o, x.pa = some ⟨b, o, none⟩ → W.heap.size ≤ b) ∧ (∀ b o, x.na = some ⟨b, o, none⟩ → W.heap.size ≤ b) ∧ Below W.heap.size W w') :
  Calls Tryz.prog 13 #[.agg #[.int .i64 s.n, .slice s.pa s.pn s.pc, .int .i64 s.c, .int .i64 s.v, .bool s.ld, .slice s.na s.nn s.nc, .int .i64 (s.h0.ag 0), .int .i64 (s.h0.ag 1), .int .i64 (s.h0.ag 2), .int .i64 (s.h0.ag 3), .int .i64 (s.h0.ag 4), .int .i64 (s.h0.ag 5), .int .i64 (s.h0.ag 6), .int .i64 (s.h0.ag 7), .int .i64 s.h0.port, .int .i64 s.h0.age, .int .i64 s.h0.hold, .int .i64 s.h0.pos, .int .i64 (s.h1.ag 0), .int .i64 (s.h1.ag 1), .int .i64 (s.h1.ag 2), .int .i64 (s.h1.ag 3), .int .i64 (s.h1.ag 4), .int .i64 (s.h1.ag 5), .int .i64 (s.h1.ag 6), .int .i64 (s.h1.ag 7), .int .i64 s.h1.port, .int .i64 s.h1.age, .int .i64 s.h1.hold, .int .i64 s.h1.pos, .slice s.ta s.tn s.tc]] w
   fun e w' => ∃ x A cap ads, X x ∧ x.Right ∧ e = .returned (.tuple #[.slice A s.tn cap, .agg (now x s.ticks ads).cells.toArray, .int .i64 0]) ∧ ads.length = s.tn ∧ Looks w' A s.tn (lks x s.ticks ads) ∧ Away w.heap.size A (lks x s.ticks ads) ∧ (now x s.ticks ads).There w' ∧ Below w.heap.size w w' := by
 have hmk := fun W => mk_looks s.tn hm W
 have HL := Lib.hid hl
 have HN := Lib.hid hnew
 clear hl hnew
 refine callsIn_wide.1 (callsIn_of_wp_marks (F := Fence.wide) (n := 10) Tryz.func13 rfl trivial ?_)
 simp only [Tryz.ntmps13, List.size_toArray, List.length_cons, List.length_nil, Nat.reduceAdd, Nat.reduceSub, Array.replicate_succ, Array.replicate_zero, List.push_toArray, List.append_toArray, List.nil_append, List.cons_append]
 refine wpIn_wide.2 ?_
 go_upto_region 1 with fail
 have q0 : Kit.Row ((w.alloc (.cells #[.int .i64 s.n, .slice s.pa s.pn s.pc, .int .i64 s.c, .int .i64 s.v, .bool s.ld, .slice s.na s.nn s.nc, .int .i64 (s.h0.ag 0), .int .i64 (s.h0.ag 1), .int .i64 (s.h0.ag 2), .int .i64 (s.h0.ag 3), .int .i64 (s.h0.ag 4), .int .i64 (s.h0.ag 5), .int .i64 (s.h0.ag 6), .int .i64 (s.h0.ag 7), .int .i64 s.h0.port, .int .i64 s.h0.age, .int .i64 s.h0.hold, .int .i64 s.h0.pos, .int .i64 (s.h1.ag 0), .int .i64 (s.h1.ag 1), .int .i64 (s.h1.ag 2), .int .i64 (s.h1.ag 3), .int .i64 (s.h1.ag 4), .int .i64 (s.h1.ag 5), .int .i64 (s.h1.ag 6), .int .i64 (s.h1.ag 7), .int .i64 s.h1.port, .int .i64 s.h1.age, .int .i64 s.h1.hold, .int .i64 s.h1.pos, .slice s.ta s.tn s.tc] 32)).alloc (.cells #[.int .i64 0, .int .i64 0, .int .i64 0, .int .i64 0, .slice none 0 0, .slice none 0 0, .int .i64 0, .int .i64 0, .int .i64 0, .int .i64 0, .int .i64 0, .int .i64 0, .int .i64 0, .int .i64 0, .int .i64 0, .int .i64 0, .int .i64 0, .int .i64 0, .int .i64 0, .int .i64 0, .int .i64 0, .int .i64 0, .int .i64 0, .int .i64 0, .int .i64 0, .int .i64 0, .int .i64 0, .int .i64 0, .int .i64 0, .int .i64 0] 36)) (w.heap.size) [.int .i64 s.n, .slice s.pa s.pn s.pc, .int .i64 s.c, .int .i64 s.v, .bool s.ld, .slice s.na s.nn s.nc, .int .i64 (s.h0.ag 0), .int .i64 (s.h0.ag 1), .int .i64 (s.h0.ag 2), .int .i64 (s.h0.ag 3), .int .i64 (s.h0.ag 4), .int .i64 (s.h0.ag 5), .int .i64 (s.h0.ag 6), .int .i64 (s.h0.ag 7), .int .i64 s.h0.port, .int .i64 s.h0.age, .int .i64 s.h0.hold, .int .i64 s.h0.pos, .int .i64 (s.h1.ag 0), .int .i64 (s.h1.ag 1), .int .i64 (s.h1.ag 2), .int .i64 (s.h1.ag 3), .int .i64 (s.h1.ag 4), .int .i64 (s.h1.ag 5), .int .i64 (s.h1.ag 6), .int .i64 (s.h1.ag 7), .int .i64 s.h1.port, .int .i64 s.h1.age, .int .i64 s.h1.hold, .int .i64 s.h1.pos, .slice s.ta s.tn s.tc] := ((Kit.Row.new w _ _).alloc _)
 have q1 : Kit.Row ((w.alloc (.cells #[.int .i64 s.n, .slice s.pa s.pn s.pc, .int .i64 s.c, .int .i64 s.v, .bool s.ld, .slice s.na s.nn s.nc, .int .i64 (s.h0.ag 0), .int .i64 (s.h0.ag 1), .int .i64 (s.h0.ag 2), .int .i64 (s.h0.ag 3), .int .i64 (s.h0.ag 4), .int .i64 (s.h0.ag 5), .int .i64 (s.h0.ag 6), .int .i64 (s.h0.ag 7), .int .i64 s.h0.port, .int .i64 s.h0.age, .int .i64 s.h0.hold, .int .i64 s.h0.pos, .int .i64 (s.h1.ag 0), .int .i64 (s.h1.ag 1), .int .i64 (s.h1.ag 2), .int .i64 (s.h1.ag 3), .int .i64 (s.h1.ag 4), .int .i64 (s.h1.ag 5), .int .i64 (s.h1.ag 6), .int .i64 (s.h1.ag 7), .int .i64 s.h1.port, .int .i64 s.h1.age, .int .i64 s.h1.hold, .int .i64 s.h1.pos, .slice s.ta s.tn s.tc] 32)).alloc (.cells #[.int .i64 0, .int .i64 0, .int .i64 0, .int .i64 0, .slice none 0 0, .slice none 0 0, .int .i64 0, .int .i64 0, .int .i64 0, .int .i64 0, .int .i64 0, .int .i64 0, .int .i64 0, .int .i64 0, .int .i64 0, .int .i64 0, .int .i64 0, .int .i64 0, .int .i64 0, .int .i64 0, .int .i64 0, .int .i64 0, .int .i64 0, .int .i64 0, .int .i64 0, .int .i64 0, .int .i64 0, .int .i64 0, .int .i64 0, .int .i64 0] 36)) (w.heap.size + 1) [.int .i64 0, .int .i64 0, .int .i64 0, .int .i64 0, .slice none 0 0, .slice none 0 0, .int .i64 0, .int .i64 0, .int .i64 0, .int .i64 0, .int .i64 0, .int .i64 0, .int .i64 0, .int .i64 0, .int .i64 0, .int .i64 0, .int .i64 0, .int .i64 0, .int .i64 0, .int .i64 0, .int .i64 0, .int .i64 0, .int .i64 0, .int .i64 0, .int .i64 0, .int .i64 0, .int .i64 0, .int .i64 0, .int .i64 0, .int .i64 0] := (Kit.Row.newAt _ _ _ _ (by simp))
 have qb : Below w.heap.size w ((w.alloc (.cells #[.int .i64 s.n, .slice s.pa s.pn s.pc, .int .i64 s.c, .int .i64 s.v, .bool s.ld, .slice s.na s.nn s.nc, .int .i64 (s.h0.ag 0), .int .i64 (s.h0.ag 1), .int .i64 (s.h0.ag 2), .int .i64 (s.h0.ag 3), .int .i64 (s.h0.ag 4), .int .i64 (s.h0.ag 5), .int .i64 (s.h0.ag 6), .int .i64 (s.h0.ag 7), .int .i64 s.h0.port, .int .i64 s.h0.age, .int .i64 s.h0.hold, .int .i64 s.h0.pos, .int .i64 (s.h1.ag 0), .int .i64 (s.h1.ag 1), .int .i64 (s.h1.ag 2), .int .i64 (s.h1.ag 3), .int .i64 (s.h1.ag 4), .int .i64 (s.h1.ag 5), .int .i64 (s.h1.ag 6), .int .i64 (s.h1.ag 7), .int .i64 s.h1.port, .int .i64 s.h1.age, .int .i64 s.h1.hold, .int .i64 s.h1.pos, .slice s.ta s.tn s.tc] 32)).alloc (.cells #[.int .i64 0, .int .i64 0, .int .i64 0, .int .i64 0, .slice none 0 0, .slice none 0 0, .int .i64 0, .int .i64 0, .int .i64 0, .int .i64 0, .int .i64 0, .int .i64 0, .int .i64 0, .int .i64 0, .int .i64 0, .int .i64 0, .int .i64 0, .int .i64 0, .int .i64 0, .int .i64 0, .int .i64 0, .int .i64 0, .int .i64 0, .int .i64 0, .int .i64 0, .int .i64 0, .int .i64 0, .int .i64 0, .int .i64 0, .int .i64 0] 36)) := (((Below.refl _ _).alloc (Nat.le_refl _) _).alloc (by simp) _)
 generalize ((w.alloc (.cells #[.int .i64 s.n, .slice s.pa s.pn s.pc, .int .i64 s.c, .int .i64 s.v, .bool s.ld, .slice s.na s.nn s.nc, .int .i64 (s.h0.ag 0), .int .i64 (s.h0.ag 1), .int .i64 (s.h0.ag 2), .int .i64 (s.h0.ag 3), .int .i64 (s.h0.ag 4), .int .i64 (s.h0.ag 5), .int .i64 (s.h0.ag 6), .int .i64 (s.h0.ag 7), .int .i64 s.h0.port, .int .i64 s.h0.age, .int .i64 s.h0.hold, .int .i64 s.h0.pos, .int .i64 (s.h1.ag 0), .int .i64 (s.h1.ag 1), .int .i64 (s.h1.ag 2), .int .i64 (s.h1.ag 3), .int .i64 (s.h1.ag 4), .int .i64 (s.h1.ag 5), .int .i64 (s.h1.ag 6), .int .i64 (s.h1.ag 7), .int .i64 s.h1.port, .int .i64 s.h1.age, .int .i64 s.h1.hold, .int .i64 s.h1.pos, .slice s.ta s.tn s.tc] 32)).alloc (.cells #[.int .i64 0, .int .i64 0, .int .i64 0, .int .i64 0, .slice none 0 0, .slice none 0 0, .int .i64 0, .int .i64 0, .int .i64 0, .int .i64 0, .int .i64 0, .int .i64 0, .int .i64 0, .int .i64 0, .int .i64 0, .int .i64 0, .int .i64 0, .int .i64 0, .int .i64 0, .int .i64 0, .int .i64 0, .int .i64 0, .int .i64 0, .int .i64 0, .int .i64 0, .int .i64 0, .int .i64 0, .int .i64 0, .int .i64 0, .int .i64 0] 36)) = w2 at *
 have R0 := Lib.hid q0
 have R1 := Lib.hid q1
 have HB := Lib.hid qb
 clear q0 q1 qb
 go_step
 refine Kit.wpList_load_row rfl 32 (.tmp 1) rfl w.heap.size 0 rfl R0.out [.int .i64 s.n, .slice s.pa s.pn s.pc, .int .i64 s.c, .int .i64 s.v, .bool s.ld, .slice s.na s.nn s.nc, .int .i64 (s.h0.ag 0), .int .i64 (s.h0.ag 1), .int .i64 (s.h0.ag 2), .int .i64 (s.h0.ag 3), .int .i64 (s.h0.ag 4), .int .i64 (s.h0.ag 5), .int .i64 (s.h0.ag 6), .int .i64 (s.h0.ag 7), .int .i64 s.h0.port, .int .i64 s.h0.age, .int .i64 s.h0.hold, .int .i64 s.h0.pos, .int .i64 (s.h1.ag 0), .int .i64 (s.h1.ag 1), .int .i64 (s.h1.ag 2), .int .i64 (s.h1.ag 3), .int .i64 (s.h1.ag 4), .int .i64 (s.h1.ag 5), .int .i64 (s.h1.ag 6), .int .i64 (s.h1.ag 7), .int .i64 s.h1.port, .int .i64 s.h1.age, .int .i64 s.h1.hold, .int .i64 s.h1.pos, .slice s.ta s.tn s.tc] rfl _ Tryz.underlying32 rfl Nw.sizeScript ?_
 go_wp2_with fail
 refine (HN.out _ HB.out).mono ?_
 rintro e w3 ⟨x, hX, hx, rfl, ht, fpa, fna, b3⟩
 have RA := Lib.hid (R0.out.below b3)
 have RB := Lib.hid (R1.out.below b3)
 have HC := Lib.hid (HB.out.trans (b3.mono HB.out.size))
 have HT := Lib.hid ht
 have hlt1 := R1.out.lt
 have hsz3 := b3.size
 have RB3 := RB
 have HC3 := HC
 clear R0 R1 HB b3 ht
 dsimp only
 iterate 13 (first | go_guarded | go_step | go_upon | go_back)
 refine Kit.wpList_store_row rfl 36 (.tmp 5) (.tmp 13) rfl w3.heap.size 0 #[.int .i64 x.n, .int .i64 x.tick, .int .i64 x.c, .int .i64 x.v, .slice x.pa x.n x.pc, .slice x.na x.n x.nc, .int .i64 (x.h0.ag 0), .int .i64 (x.h0.ag 1), .int .i64 (x.h0.ag 2), .int .i64 (x.h0.ag 3), .int .i64 (x.h0.ag 4), .int .i64 (x.h0.ag 5), .int .i64 (x.h0.ag 6), .int .i64 (x.h0.ag 7), .int .i64 x.h0.port, .int .i64 x.h0.age, .int .i64 x.h0.hold, .int .i64 x.h0.pos, .int .i64 (x.h1.ag 0), .int .i64 (x.h1.ag 1), .int .i64 (x.h1.ag 2), .int .i64 (x.h1.ag 3), .int .i64 (x.h1.ag 4), .int .i64 (x.h1.ag 5), .int .i64 (x.h1.ag 6), .int .i64 (x.h1.ag 7), .int .i64 x.h1.port, .int .i64 x.h1.age, .int .i64 x.h1.hold, .int .i64 x.h1.pos] rfl rfl (Kit.Row.newAt w3 _ _ _ rfl) (by simp) sizeWorld (by first | rfl | (simp [Value.oneCell']; done) | decide) ?_
 intro W hW
 have r5 : Kit.Row W w3.heap.size [.int .i64 x.n, .int .i64 x.tick, .int .i64 x.c, .int .i64 x.v, .slice x.pa x.n x.pc, .slice x.na x.n x.nc, .int .i64 (x.h0.ag 0), .int .i64 (x.h0.ag 1), .int .i64 (x.h0.ag 2), .int .i64 (x.h0.ag 3), .int .i64 (x.h0.ag 4), .int .i64 (x.h0.ag 5), .int .i64 (x.h0.ag 6), .int .i64 (x.h0.ag 7), .int .i64 x.h0.port, .int .i64 x.h0.age, .int .i64 x.h0.hold, .int .i64 x.h0.pos, .int .i64 (x.h1.ag 0), .int .i64 (x.h1.ag 1), .int .i64 (x.h1.ag 2), .int .i64 (x.h1.ag 3), .int .i64 (x.h1.ag 4), .int .i64 (x.h1.ag 5), .int .i64 (x.h1.ag 6), .int .i64 (x.h1.ag 7), .int .i64 x.h1.port, .int .i64 x.h1.age, .int .i64 x.h1.hold, .int .i64 x.h1.pos] := (Kit.Row.newAt w3 _ _ _ rfl).all hW rfl
 have b4 := Kit.below_of ((Below.refl w3.heap.size w3).alloc (Nat.le_refl _) (.cells #[.int .i64 0, .int .i64 0, .int .i64 0, .int .i64 0, .slice none 0 0, .slice none 0 0, .int .i64 0, .int .i64 0, .int .i64 0, .int .i64 0, .int .i64 0, .int .i64 0, .int .i64 0, .int .i64 0, .int .i64 0, .int .i64 0, .int .i64 0, .int .i64 0, .int .i64 0, .int .i64 0, .int .i64 0, .int .i64 0, .int .i64 0, .int .i64 0, .int .i64 0, .int .i64 0, .int .i64 0, .int .i64 0, .int .i64 0, .int .i64 0] 36)) hW (Nat.le_refl _)
 have RA1 := RA.out.below b4
 have RB1 := RB.out.below b4
 have HC1 := HC.out.trans (b4.mono HC.out.size)
 have k30 := RA1.at_ 30 (.slice s.ta s.tn s.tc) rfl
 have hlt5 := r5.lt
 clear hW RA RB
 go_upto_region 5 with fail
 have b6 : Below W.heap.size W ((W.alloc (.cells (madeCells #[Value.int .i64 0, Value.int .i64 0, Value.int .i64 0, Value.int .i64 0, Value.int .i64 0, .slice none 0 0] (s.tn * 6)) 48)).alloc (.cells #[.slice (some ⟨W.heap.size, 0, none⟩) 0 s.tn] 40)) := ((Below.refl _ _).alloc (Nat.le_refl _) _).alloc (by simp) _
 have HO := Lib.hid ((own_looks s.tn hm W (w3.heap.size + 1) (by omega)).alloc (.cells #[.slice (some ⟨W.heap.size, 0, none⟩) 0 s.tn] 40))
 have R7 := Lib.hid (Kit.Row.newAt (W.alloc (.cells (madeCells #[Value.int .i64 0, Value.int .i64 0, Value.int .i64 0, Value.int .i64 0, Value.int .i64 0, .slice none 0 0] (s.tn * 6)) 48)) #[.slice (some ⟨W.heap.size, 0, none⟩) 0 s.tn] 40 (W.heap.size + 1) (by simp))
 have R5 := Lib.hid (r5.below b6)
 have RA := Lib.hid (RA1.below b6)
 have RB := Lib.hid (RB1.below b6)
 have HC2 := Lib.hid (HC1.trans (b6.mono HC1.size))
 have HD := Lib.hid (b4.trans (b6.mono b4.size))
 have hsz6 : W.heap.size + 1 < ((W.alloc (.cells (madeCells #[Value.int .i64 0, Value.int .i64 0, Value.int .i64 0, Value.int .i64 0, Value.int .i64 0, .slice none 0 0] (s.tn * 6)) 48)).alloc (.cells #[.slice (some ⟨W.heap.size, 0, none⟩) 0 s.tn] 40)).heap.size := by simp only [World.size_alloc]; omega
 have k30' := RA.out.at_ 30 (.slice s.ta s.tn s.tc) rfl
 clear b4 b6 r5 RA1 RB1 HC1 k30 hmk
 generalize (W.alloc (.cells (madeCells #[Value.int .i64 0, Value.int .i64 0, Value.int .i64 0, Value.int .i64 0, Value.int .i64 0, .slice none 0 0] (s.tn * 6)) 48)).alloc (.cells #[.slice (some ⟨W.heap.size, 0, none⟩) 0 s.tn] 40) = w6 at *
 generalize W.heap.size = L0 at *
 go_step
 refine Kit.wpList_load_row rfl 36 (.tmp 5) rfl w3.heap.size 0 rfl R5.out [.int .i64 x.n, .int .i64 x.tick, .int .i64 x.c, .int .i64 x.v, .slice x.pa x.n x.pc, .slice x.na x.n x.nc, .int .i64 (x.h0.ag 0), .int .i64 (x.h0.ag 1), .int .i64 (x.h0.ag 2), .int .i64 (x.h0.ag 3), .int .i64 (x.h0.ag 4), .int .i64 (x.h0.ag 5), .int .i64 (x.h0.ag 6), .int .i64 (x.h0.ag 7), .int .i64 x.h0.port, .int .i64 x.h0.age, .int .i64 x.h0.hold, .int .i64 x.h0.pos, .int .i64 (x.h1.ag 0), .int .i64 (x.h1.ag 1), .int .i64 (x.h1.ag 2), .int .i64 (x.h1.ag 3), .int .i64 (x.h1.ag 4), .int .i64 (x.h1.ag 5), .int .i64 (x.h1.ag 6), .int .i64 (x.h1.ag 7), .int .i64 x.h1.port, .int .i64 x.h1.age, .int .i64 x.h1.hold, .int .i64 x.h1.pos] rfl _ Tryz.underlying36 rfl sizeWorld ?_
 go_wp2_with fail
 refine (ticks_calls x s.ta s.tn s.tc _).mono ?_
 rintro e w7 ⟨rfl, rw, rl, b7⟩
 have hsz7 := b7.size
 have hlw := rw.lt
 have hll := rl.lt
 dsimp only
 iterate 5 (first | go_back | go_step)
 have hC0 : Core w3 x s.ticks [w6.heap.size, w6.heap.size + 1, L0 + 1, w3.heap.size] w7 [] (.slice (some ⟨L0, 0, none⟩) 0 s.tn) := ⟨HD.out.trans (b7.mono HD.out.size), Kit.own_below HO.out b7, fun j p hp => by simp at hp, fun u hu => ⟨by
  have hu' : L0 = u := by simpa [Value.ownBlock] using hu
  subst hu'
  simp only [List.mem_cons, List.not_mem_nil, or_false]
  omega, fun p hp => by simp at hp⟩, fun p hp => by simp at hp⟩
 have M0 : Mem w3 x s.ticks ⟨w3.heap.size, L0 + 1, w6.heap.size + 1, w6.heap.size, s.ta, s.tn, s.tc⟩ [w6.heap.size, w6.heap.size + 1, L0 + 1, w3.heap.size] w7 [] (.slice (some ⟨L0, 0, none⟩) 0 s.tn) := ⟨hC0, R5.out.below b7, R7.out.below b7, rl⟩
 have RB7 := Lib.hid (RB.out.below b7)
 have HCL := Lib.hid (HL.out.below HC.out)
 have hb67 := hsz7
 generalize hBx : (⟨w3.heap.size, L0 + 1, w6.heap.size + 1, w6.heap.size, s.ta, s.tn, s.tc⟩ : Bx) = B at *
 have HC7 := Lib.hid (HC2.out.trans (b7.mono HC2.out.size))
 clear k30' R5 RA R7 HO
 generalize (Value.tuple #[Value.agg x.cells.toArray, Value.int IntKind.i64 0]) = V10
 generalize (Value.agg x.cells.toArray) = V13
 generalize (Value.agg #[.int .i64 s.n, .slice s.pa s.pn s.pc, .int .i64 s.c, .int .i64 s.v, .bool s.ld, .slice s.na s.nn s.nc, .int .i64 (s.h0.ag 0), .int .i64 (s.h0.ag 1), .int .i64 (s.h0.ag 2), .int .i64 (s.h0.ag 3), .int .i64 (s.h0.ag 4), .int .i64 (s.h0.ag 5), .int .i64 (s.h0.ag 6), .int .i64 (s.h0.ag 7), .int .i64 s.h0.port, .int .i64 s.h0.age, .int .i64 s.h0.hold, .int .i64 s.h0.pos, .int .i64 (s.h1.ag 0), .int .i64 (s.h1.ag 1), .int .i64 (s.h1.ag 2), .int .i64 (s.h1.ag 3), .int .i64 (s.h1.ag 4), .int .i64 (s.h1.ag 5), .int .i64 (s.h1.ag 6), .int .i64 (s.h1.ag 7), .int .i64 s.h1.port, .int .i64 s.h1.age, .int .i64 s.h1.hold, .int .i64 s.h1.pos, .slice s.ta s.tn s.tc]) = V0
 generalize (Value.agg #[.int .i64 x.n, .int .i64 x.tick, .int .i64 x.c, .int .i64 x.v, .slice x.pa x.n x.pc, .slice x.na x.n x.nc, .int .i64 (x.h0.ag 0), .int .i64 (x.h0.ag 1), .int .i64 (x.h0.ag 2), .int .i64 (x.h0.ag 3), .int .i64 (x.h0.ag 4), .int .i64 (x.h0.ag 5), .int .i64 (x.h0.ag 6), .int .i64 (x.h0.ag 7), .int .i64 x.h0.port, .int .i64 x.h0.age, .int .i64 x.h0.hold, .int .i64 x.h0.pos, .int .i64 (x.h1.ag 0), .int .i64 (x.h1.ag 1), .int .i64 (x.h1.ag 2), .int .i64 (x.h1.ag 3), .int .i64 (x.h1.ag 4), .int .i64 (x.h1.ag 5), .int .i64 (x.h1.ag 6), .int .i64 (x.h1.ag 7), .int .i64 x.h1.port, .int .i64 x.h1.age, .int .i64 x.h1.hold, .int .i64 x.h1.pos]) = V23
 refine (wpIn_wide (n := 10)).1 ?_
 refine Rg.wp_range (α := Rd) rfl (Kit.enters Tryz.func61 (by kernel_rfl) rfl) (fun d => d.1.length < B.tn) (encs x s.ticks) (fun _ => rfl) (At w3 x s.ticks B) (Behind w3 x s.ticks B)
  (Done w3 x s.ticks B)
  (fun d a₁ W => ∃ b8 b9, a₁ = { tmps := #[V0, .pointer (some ⟨w.heap.size, 0, none⟩), .slice none 0 0, .pointer (some ⟨w.heap.size + 1, 0, none⟩), .int .i64 0, .pointer (some ⟨w3.heap.size, 0, none⟩), .int .i64 0, .pointer (some ⟨L0 + 1, 0, none⟩), .pointer (some ⟨b8, 0, none⟩), .pointer (some ⟨b9, 0, none⟩), V10, V0, V10, V13, .int .i64 0, .int .i64 0, .bool false, undef, undef, .pointer (some ⟨w.heap.size, 30, none⟩), .slice s.ta s.tn s.tc, .int .i64 s.tn, .slice (some ⟨L0, 0, none⟩) 0 s.tn, V23, .pointer (some ⟨w.heap.size, 30, none⟩), .slice s.ta s.tn s.tc, .func (.func 61) #[] #[.pointer (some ⟨w6.heap.size + 1, 0, none⟩), .pointer (some ⟨w6.heap.size, 0, none⟩)], .agg (now x s.ticks (d.1 ++ [d.2.1])).cells.toArray, .agg (lkAt x s.ticks d.1.length d.2.1).cells.toArray, undef, undef, undef, undef, undef, undef, undef], defers := [] } ∧ Vars w3 x s.ticks B b8 b9 d W) ?hM ?hM2 ?hE ?hA ?iter ?assign ?body ?done
 case hM =>
  rintro ⟨ads, p, b6⟩ W r o o' hr hl ho ⟨v, M, h1, h2, h3, h4, h5, h50⟩
  exact ⟨v, M.put o' hl ho (by have := HD.out.size; omega), row_put o' h1 (by simp [Wd.cells]) hl ho, row_put o' h2 (by simp [Wd.cells]) hl ho, ownsRow_putObj h3 o' hl ho, h4, h5, h50⟩
 case hM2 =>
  rintro ⟨ads, p, b6⟩ W r o o' hr hl ho ⟨v, M, h1, h2⟩
  exact ⟨v, M.put o' hl ho (by have := HD.out.size; omega), row_put o' h1 (by simp [Wd.cells]) hl ho, row_put o' h2 (by simp [Wd.cells]) hl ho⟩
 case hE =>
  rintro W r o o' hr hl ho ⟨ads, v, hn, M⟩
  exact ⟨ads, v, hn, M.put o' hl ho (by have := HD.out.size; omega)⟩
 case hA =>
  rintro ⟨ads, p, b6⟩ a1 W r o o' hr hl ho ⟨b8, b9, e, v, M, h1, h2, h3, h4, h5, h6, h7, h50⟩
  exact ⟨b8, b9, e, v, M.put o' hl ho (by have := HD.out.size; omega), row_put o' h1 (by simp [Wd.cells]) hl ho, row_put o' h2 (by simp [Wd.cells]) hl ho, ownsRow_putObj h3 o' hl ho, h4, h5, row_put o' h6 (by simp [Wd.cells]) hl ho, row_put o' h7 (by simp [Lk.cells]) hl ho, h50⟩
 case iter =>
  rintro lp Bk hBk hY W hb hk0
  subst hBx
  exact iter_calls w3 x s.ticks _ hx HT.out HCL.out hm (Nat.le_refl _) (by have := HD.out.size; exact this) lp Bk hBk hY ⟨by simp, by simp only; omega, by simp only; omega⟩ W _ (M0.below hb) (rw.below hb) hk0
 case assign =>
  rintro lp ⟨ads, p, b6⟩ W hd ⟨v, M, h1, h2, h3, h4, h5, h50⟩
  dsimp only at M h1 h2 h3 h4 h5
  simp only [encs, List.zip_toArray, List.zip_cons_cons, List.zip_nil_right, List.zip_nil_left, List.foldl_toArray, List.foldl_cons, List.foldl_nil, List.setIfInBounds_toArray, List.set_cons_succ, List.set_cons_zero]
  refine wpIn_seq_k (fun K hK => ?_)
  refine Rg.region_round rfl ?_
  iterate 3 (first | go_guarded | go_step | go_upon | go_back)
  refine Kit.wpList_store_row rfl 36 (.tmp 8) (.tmp 27) rfl W.heap.size 0 #[.int .i64 (now x s.ticks (ads ++ [p])).n, .int .i64 (now x s.ticks (ads ++ [p])).tick, .int .i64 (now x s.ticks (ads ++ [p])).c, .int .i64 (now x s.ticks (ads ++ [p])).v, .slice (now x s.ticks (ads ++ [p])).pa (now x s.ticks (ads ++ [p])).n (now x s.ticks (ads ++ [p])).pc, .slice (now x s.ticks (ads ++ [p])).na (now x s.ticks (ads ++ [p])).n (now x s.ticks (ads ++ [p])).nc, .int .i64 ((now x s.ticks (ads ++ [p])).h0.ag 0), .int .i64 ((now x s.ticks (ads ++ [p])).h0.ag 1), .int .i64 ((now x s.ticks (ads ++ [p])).h0.ag 2), .int .i64 ((now x s.ticks (ads ++ [p])).h0.ag 3), .int .i64 ((now x s.ticks (ads ++ [p])).h0.ag 4), .int .i64 ((now x s.ticks (ads ++ [p])).h0.ag 5), .int .i64 ((now x s.ticks (ads ++ [p])).h0.ag 6), .int .i64 ((now x s.ticks (ads ++ [p])).h0.ag 7), .int .i64 ((now x s.ticks (ads ++ [p])).h0.port), .int .i64 ((now x s.ticks (ads ++ [p])).h0.age), .int .i64 ((now x s.ticks (ads ++ [p])).h0.hold), .int .i64 ((now x s.ticks (ads ++ [p])).h0.pos), .int .i64 ((now x s.ticks (ads ++ [p])).h1.ag 0), .int .i64 ((now x s.ticks (ads ++ [p])).h1.ag 1), .int .i64 ((now x s.ticks (ads ++ [p])).h1.ag 2), .int .i64 ((now x s.ticks (ads ++ [p])).h1.ag 3), .int .i64 ((now x s.ticks (ads ++ [p])).h1.ag 4), .int .i64 ((now x s.ticks (ads ++ [p])).h1.ag 5), .int .i64 ((now x s.ticks (ads ++ [p])).h1.ag 6), .int .i64 ((now x s.ticks (ads ++ [p])).h1.ag 7), .int .i64 ((now x s.ticks (ads ++ [p])).h1.port), .int .i64 ((now x s.ticks (ads ++ [p])).h1.age), .int .i64 ((now x s.ticks (ads ++ [p])).h1.hold), .int .i64 ((now x s.ticks (ads ++ [p])).h1.pos)] rfl rfl (Kit.Row.newAt W _ _ _ rfl) (by simp) sizeWorld (by first | rfl | (simp [Value.oneCell']; done) | decide) ?_
  intro W1 hW1
  have r8 : Kit.Row W1 W.heap.size (now x s.ticks (ads ++ [p])).cells := (Kit.Row.newAt W _ _ _ rfl).all hW1 rfl
  have c1 := Kit.below_of ((Below.refl W.heap.size W).alloc (Nat.le_refl _) (.cells #[.int .i64 0, .int .i64 0, .int .i64 0, .int .i64 0, .slice none 0 0, .slice none 0 0, .int .i64 0, .int .i64 0, .int .i64 0, .int .i64 0, .int .i64 0, .int .i64 0, .int .i64 0, .int .i64 0, .int .i64 0, .int .i64 0, .int .i64 0, .int .i64 0, .int .i64 0, .int .i64 0, .int .i64 0, .int .i64 0, .int .i64 0, .int .i64 0, .int .i64 0, .int .i64 0, .int .i64 0, .int .i64 0, .int .i64 0, .int .i64 0] 36)) hW1 (Nat.le_refl _)
  have k1 := (KeepsOthers.alloc W (.cells #[.int .i64 0, .int .i64 0, .int .i64 0, .int .i64 0, .slice none 0 0, .slice none 0 0, .int .i64 0, .int .i64 0, .int .i64 0, .int .i64 0, .int .i64 0, .int .i64 0, .int .i64 0, .int .i64 0, .int .i64 0, .int .i64 0, .int .i64 0, .int .i64 0, .int .i64 0, .int .i64 0, .int .i64 0, .int .i64 0, .int .i64 0, .int .i64 0, .int .i64 0, .int .i64 0, .int .i64 0, .int .i64 0, .int .i64 0, .int .i64 0] 36)).trans (Rg.keeps_stored hW1)
  clear hW1
  refine hK _ _ (Rg.region_round rfl ?_)
  iterate 3 (first | go_guarded | go_step | go_upon | go_back)
  refine Kit.wpList_store_row rfl 48 (.tmp 9) (.tmp 28) rfl W1.heap.size 0 #[.int .i64 (lkAt x s.ticks ads.length p).tick, .int .i64 (lkAt x s.ticks ads.length p).r0.k, .int .i64 (lkAt x s.ticks ads.length p).r0.i, .int .i64 (lkAt x s.ticks ads.length p).r1.k, .int .i64 (lkAt x s.ticks ads.length p).r1.i, .slice (lkAt x s.ticks ads.length p).at_ (lkAt x s.ticks ads.length p).n (lkAt x s.ticks ads.length p).cap] rfl rfl (Kit.Row.newAt W1 _ _ _ rfl) (by simp) sizeLook (by first | rfl | (simp [Value.oneCell']; done) | decide) ?_
  intro W2 hW2
  have r9 : Kit.Row W2 W1.heap.size (lkAt x s.ticks ads.length p).cells := (Kit.Row.newAt W1 _ _ _ rfl).all hW2 rfl
  have c2 := Kit.below_of ((Below.refl W1.heap.size W1).alloc (Nat.le_refl _) (.cells #[.int .i64 0, .int .i64 0, .int .i64 0, .int .i64 0, .int .i64 0, .slice none 0 0] 48)) hW2 (Nat.le_refl _)
  have k2 := k1.trans ((KeepsOthers.alloc W1 (.cells #[.int .i64 0, .int .i64 0, .int .i64 0, .int .i64 0, .int .i64 0, .slice none 0 0] 48)).trans (Rg.keeps_stored hW2))
  clear hW2
  have hC := (((M.core.add W.heap.size (Nat.le_refl _)).below c1).add W1.heap.size (Nat.le_refl _)).below c2
  have hs1 := c1.size
  have hg := (own_lt' h3 p.1 rfl).2
  exact ⟨k2, W.heap.size, W1.heap.size, rfl, v, ⟨hC, (M.r5.below c1).below c2, (M.r7.below c1).below c2, (M.rl.below c1).below c2⟩, (h1.below c1).below c2, (h2.below c1).below c2, Kit.own_below (Kit.own_below h3 c1) c2, by
   simp only [List.mem_cons, List.not_mem_nil, or_false] at h4 ⊢
   omega, h5, r8.below c2, r9, h50, h2.lt, by have := r8.lt; omega⟩
 case body =>
  rintro lp ⟨ads, p, b6⟩ a1 W hd ⟨b8, b9, rfl, v, M, h1, h2, h3, h4, h5, h6, h7, ⟨h51, h52, h53, h54⟩, h55, h56⟩
  subst hBx
  dsimp only at M h1 h2 h3 h4 h5 h6 h7 hd h51 h52 h53 h54 h55 ⊢
  refine wpIn_block ?_
  have hmem := fun b (hb : b ∈ [b9, b8, b6, w6.heap.size, w6.heap.size + 1, L0 + 1, w3.heap.size]) => hb
  have C := Lib.hid M.drew.core
  have hk := Lib.hid (KeepsOthers.drew W)
  have hn := Lib.hid h3.drew
  have r5 : Hid (Kit.Row W.drew (w3.heap.size) (now x s.ticks ads).cells) := Lib.hid (M.r5).drew
  have r7 : Hid (Kit.Row W.drew (L0 + 1) [v]) := Lib.hid (M.r7).drew
  have rl : Hid (Kit.Row W.drew (w6.heap.size + 1) [.slice s.ta s.tn s.tc]) := Lib.hid (M.rl).drew
  have rw : Hid (Kit.Row W.drew (w6.heap.size) (now x s.ticks ads).cells) := Lib.hid (h1).drew
  have r6 : Hid (Kit.Row W.drew (b6) (now x s.ticks (ads ++ [p])).cells) := Lib.hid (h2).drew
  have r8 : Hid (Kit.Row W.drew (b8) (now x s.ticks (ads ++ [p])).cells) := Lib.hid (h6).drew
  have r9 : Hid (Kit.Row W.drew (b9) (lkAt x s.ticks ads.length p).cells) := Lib.hid (h7).drew
  have hlts : ∀ b ∈ [b9, b8, b6, w6.heap.size, w6.heap.size + 1, L0 + 1, w3.heap.size], b < W.heap.size := by
   intro b hb
   simp only [List.mem_cons, List.not_mem_nil, or_false] at hb
   rcases hb with rfl | rfl | rfl | rfl | rfl | rfl | rfl
   ·exact h7.lt
   ·exact h6.lt
   ·exact h2.lt
   ·exact h1.lt
   ·exact M.rl.lt
   ·exact M.r7.lt
   ·exact M.r5.lt
  have hvn := (own_lt' M.core.lk)
  obtain ⟨i0, hi, hz0, hz1, hz2⟩ := info_parts lookInfo
  refine Rg.region_round_drew (S := (fun w' => Kit.Row w' b8 (now x s.ticks (ads ++ [p])).cells ∧ Kit.Row w' b9 (lkAt x s.ticks ads.length p).cells)) (by kernel_rfl) rfl ⟨r8.out, r9.out⟩ (fun hHeld => ?_)
  clear M h1 h2 h3 h6 h7
  have hsW := Lib.hid (show W.drew.heap.size = W.heap.size from rfl)
  generalize hwd : W.drew = w8 at *
  clear hwd
  refine Rgn.take 0 (v := .agg #[.int .i64 (now x s.ticks (ads ++ [p])).n, .int .i64 (now x s.ticks (ads ++ [p])).tick, .int .i64 (now x s.ticks (ads ++ [p])).c, .int .i64 (now x s.ticks (ads ++ [p])).v, .slice (now x s.ticks (ads ++ [p])).pa (now x s.ticks (ads ++ [p])).n (now x s.ticks (ads ++ [p])).pc, .slice (now x s.ticks (ads ++ [p])).na (now x s.ticks (ads ++ [p])).n (now x s.ticks (ads ++ [p])).nc, .int .i64 ((now x s.ticks (ads ++ [p])).h0.ag 0), .int .i64 ((now x s.ticks (ads ++ [p])).h0.ag 1), .int .i64 ((now x s.ticks (ads ++ [p])).h0.ag 2), .int .i64 ((now x s.ticks (ads ++ [p])).h0.ag 3), .int .i64 ((now x s.ticks (ads ++ [p])).h0.ag 4), .int .i64 ((now x s.ticks (ads ++ [p])).h0.ag 5), .int .i64 ((now x s.ticks (ads ++ [p])).h0.ag 6), .int .i64 ((now x s.ticks (ads ++ [p])).h0.ag 7), .int .i64 ((now x s.ticks (ads ++ [p])).h0.port), .int .i64 ((now x s.ticks (ads ++ [p])).h0.age), .int .i64 ((now x s.ticks (ads ++ [p])).h0.hold), .int .i64 ((now x s.ticks (ads ++ [p])).h0.pos), .int .i64 ((now x s.ticks (ads ++ [p])).h1.ag 0), .int .i64 ((now x s.ticks (ads ++ [p])).h1.ag 1), .int .i64 ((now x s.ticks (ads ++ [p])).h1.ag 2), .int .i64 ((now x s.ticks (ads ++ [p])).h1.ag 3), .int .i64 ((now x s.ticks (ads ++ [p])).h1.ag 4), .int .i64 ((now x s.ticks (ads ++ [p])).h1.ag 5), .int .i64 ((now x s.ticks (ads ++ [p])).h1.ag 6), .int .i64 ((now x s.ticks (ads ++ [p])).h1.ag 7), .int .i64 ((now x s.ticks (ads ++ [p])).h1.port), .int .i64 ((now x s.ticks (ads ++ [p])).h1.age), .int .i64 ((now x s.ticks (ads ++ [p])).h1.hold), .int .i64 ((now x s.ticks (ads ++ [p])).h1.pos)]) rfl (by kernel_rfl) (by kernel_rfl) (by kernel_rfl) (fun _ _ _ h => h) (by kernel_rfl) (fun wS hSw => Kit.exec_load 36 (.tmp 8) rfl b8 0 rfl [.int .i64 (now x s.ticks (ads ++ [p])).n, .int .i64 (now x s.ticks (ads ++ [p])).tick, .int .i64 (now x s.ticks (ads ++ [p])).c, .int .i64 (now x s.ticks (ads ++ [p])).v, .slice (now x s.ticks (ads ++ [p])).pa (now x s.ticks (ads ++ [p])).n (now x s.ticks (ads ++ [p])).pc, .slice (now x s.ticks (ads ++ [p])).na (now x s.ticks (ads ++ [p])).n (now x s.ticks (ads ++ [p])).nc, .int .i64 ((now x s.ticks (ads ++ [p])).h0.ag 0), .int .i64 ((now x s.ticks (ads ++ [p])).h0.ag 1), .int .i64 ((now x s.ticks (ads ++ [p])).h0.ag 2), .int .i64 ((now x s.ticks (ads ++ [p])).h0.ag 3), .int .i64 ((now x s.ticks (ads ++ [p])).h0.ag 4), .int .i64 ((now x s.ticks (ads ++ [p])).h0.ag 5), .int .i64 ((now x s.ticks (ads ++ [p])).h0.ag 6), .int .i64 ((now x s.ticks (ads ++ [p])).h0.ag 7), .int .i64 ((now x s.ticks (ads ++ [p])).h0.port), .int .i64 ((now x s.ticks (ads ++ [p])).h0.age), .int .i64 ((now x s.ticks (ads ++ [p])).h0.hold), .int .i64 ((now x s.ticks (ads ++ [p])).h0.pos), .int .i64 ((now x s.ticks (ads ++ [p])).h1.ag 0), .int .i64 ((now x s.ticks (ads ++ [p])).h1.ag 1), .int .i64 ((now x s.ticks (ads ++ [p])).h1.ag 2), .int .i64 ((now x s.ticks (ads ++ [p])).h1.ag 3), .int .i64 ((now x s.ticks (ads ++ [p])).h1.ag 4), .int .i64 ((now x s.ticks (ads ++ [p])).h1.ag 5), .int .i64 ((now x s.ticks (ads ++ [p])).h1.ag 6), .int .i64 ((now x s.ticks (ads ++ [p])).h1.ag 7), .int .i64 ((now x s.ticks (ads ++ [p])).h1.port), .int .i64 ((now x s.ticks (ads ++ [p])).h1.age), .int .i64 ((now x s.ticks (ads ++ [p])).h1.hold), .int .i64 ((now x s.ticks (ads ++ [p])).h1.pos)] _ hSw.1.mine.r Tryz.underlying36 rfl sizeWorld) hHeld ?_
  try simp only [Act.put, Rgn.a, Rgn.b, Rgn.c]
  refine Rgn.take 2 (v := .agg #[.int .i64 (lkAt x s.ticks ads.length p).tick, .int .i64 (lkAt x s.ticks ads.length p).r0.k, .int .i64 (lkAt x s.ticks ads.length p).r0.i, .int .i64 (lkAt x s.ticks ads.length p).r1.k, .int .i64 (lkAt x s.ticks ads.length p).r1.i, .slice (lkAt x s.ticks ads.length p).at_ (lkAt x s.ticks ads.length p).n (lkAt x s.ticks ads.length p).cap]) rfl (by kernel_rfl) (by kernel_rfl) (by kernel_rfl) (fun _ _ _ h => h) (by kernel_rfl) (fun wS hSw => Kit.exec_load 48 (.tmp 9) rfl b9 0 rfl [.int .i64 (lkAt x s.ticks ads.length p).tick, .int .i64 (lkAt x s.ticks ads.length p).r0.k, .int .i64 (lkAt x s.ticks ads.length p).r0.i, .int .i64 (lkAt x s.ticks ads.length p).r1.k, .int .i64 (lkAt x s.ticks ads.length p).r1.i, .slice (lkAt x s.ticks ads.length p).at_ (lkAt x s.ticks ads.length p).n (lkAt x s.ticks ads.length p).cap] _ hSw.2.mine.r Tryz.underlying48 rfl sizeLook) hHeld ?_
  try simp only [Act.put, Rgn.a, Rgn.b, Rgn.c]
  have c7 := r7.out.at_ 0 v rfl
  refine Rgn.two 1 3 rfl rfl (by kernel_rfl) (fun K hK => ?_) (fun K hK => ?_)
  ·go_simp
   refine hK.out _ _ ?_ (fun hHeld => ?_)
   ·exact ⟨r8.out, r9.out⟩
   clear hK K
   try simp only [Act.put, Rgn.a, Rgn.b, Rgn.c]
   refine Rgn.one 3 rfl (by kernel_rfl) (fun K hK => ?_)
   go_simp
   have ba : Below w8.heap.size w8 (w8.alloc (.cells #[.int .i64 (lkAt x s.ticks ads.length p).tick, .int .i64 (lkAt x s.ticks ads.length p).r0.k, .int .i64 (lkAt x s.ticks ads.length p).r0.i, .int .i64 (lkAt x s.ticks ads.length p).r1.k, .int .i64 (lkAt x s.ticks ads.length p).r1.i, .slice (lkAt x s.ticks ads.length p).at_ (lkAt x s.ticks ads.length p).n (lkAt x s.ticks ads.length p).cap] 48)) := (Below.refl _ _).alloc (Nat.le_refl _) _
   replace C := Lib.hid (C.out.below ba)
   replace hn := Lib.hid (Kit.own_below hn.out ba)
   replace hk := Lib.hid (hk.out.trans (KeepsOthers.alloc w8 (.cells #[.int .i64 (lkAt x s.ticks ads.length p).tick, .int .i64 (lkAt x s.ticks ads.length p).r0.k, .int .i64 (lkAt x s.ticks ads.length p).r0.i, .int .i64 (lkAt x s.ticks ads.length p).r1.k, .int .i64 (lkAt x s.ticks ads.length p).r1.i, .slice (lkAt x s.ticks ads.length p).at_ (lkAt x s.ticks ads.length p).n (lkAt x s.ticks ads.length p).cap] 48)))
   replace r5 := Lib.hid (r5.out.below ba)
   replace r7 := Lib.hid (r7.out.below ba)
   replace rl := Lib.hid (rl.out.below ba)
   replace rw := Lib.hid (rw.out.below ba)
   replace r6 := Lib.hid (r6.out.below ba)
   replace r8 := Lib.hid (r8.out.below ba)
   replace r9 := Lib.hid (r9.out.below ba)
   have hss : (w8.alloc (.cells #[.int .i64 (lkAt x s.ticks ads.length p).tick, .int .i64 (lkAt x s.ticks ads.length p).r0.k, .int .i64 (lkAt x s.ticks ads.length p).r0.i, .int .i64 (lkAt x s.ticks ads.length p).r1.k, .int .i64 (lkAt x s.ticks ads.length p).r1.i, .slice (lkAt x s.ticks ads.length p).at_ (lkAt x s.ticks ads.length p).n (lkAt x s.ticks ads.length p).cap] 48)).heap.size = w8.heap.size + 1 := by simp
   clear ba c7
   have c7 := r7.out.at_ 0 v rfl
   refine hK.out _ _ ?_ (fun hHeld => ?_)
   ·exact ⟨r8.out, r9.out⟩
   clear hK K
   try simp only [Act.put, Rgn.a, Rgn.b, Rgn.c]
   refine Rgn.one 4 rfl (by kernel_rfl) (fun K hK => ?_)
   rw [if_pos (by kernel_rfl)]
   refine wp_append_at (.tmp 30) (.tmp 32) 40 rfl (w3.heap.size + 1) 48 i0 (.agg #[.int .i64 0, .int .i64 0, .int .i64 0, .int .i64 0, .int .i64 0, .slice none 0 0]) 6 64 Tryz.underlying40 hi hz0 hz1 hz2 rfl (by decide) _ _ _ rfl C.out.lk ⟨w8.heap.size, 0, none⟩ 1 1 [.int .i64 (lkAt x s.ticks ads.length p).tick, .int .i64 (lkAt x s.ticks ads.length p).r0.k, .int .i64 (lkAt x s.ticks ads.length p).r0.i, .int .i64 (lkAt x s.ticks ads.length p).r1.k, .int .i64 (lkAt x s.ticks ads.length p).r1.i, .slice (lkAt x s.ticks ads.length p).at_ (lkAt x s.ticks ads.length p).n (lkAt x s.ticks ads.length p).cap] rfl rfl ?c1 ?c2 ?c3 ?c4 ?c5 ?_
   case c1 => exact news_look w8 _
   case c2 => intro u hu; simp only [List.mem_cons, List.not_mem_nil, or_false] at hu; rcases hu with rfl | rfl | rfl | rfl | rfl | rfl <;> rfl
   case c3 => unfold maxLen; omega
   case c4 => omega
   case c5 => have := C.out.old.size; have := (own_lt' hn.out _ rfl); omega
   intro v2 w9 hown hgrow hat
   obtain ⟨g2, cp2, rfl, _, _⟩ := hown.form (by omega)
   have hfr := C.out.fr
   have hkg := KeepsOthers.of_grownBy hgrow (fun j o hj ho => own_cells C.out.lk j o hj ho)
   replace r5 := Lib.hid (row_kept r5.out hgrow (fun e => (hfr _ e).1 (by simp)))
   replace r7 := Lib.hid (row_kept r7.out hgrow (fun e => (hfr _ e).1 (by simp)))
   replace rl := Lib.hid (row_kept rl.out hgrow (fun e => (hfr _ e).1 (by simp)))
   replace rw := Lib.hid (row_kept rw.out hgrow (fun e => (hfr _ e).1 (by simp)))
   replace r6 := Lib.hid (row_kept r6.out hgrow (fun e => (hfr _ e).1 (by simp)))
   replace r8 := Lib.hid (row_kept r8.out hgrow (fun e => (hfr _ e).1 (by simp)))
   replace r9 := Lib.hid (row_kept r9.out hgrow (fun e => (hfr _ e).1 (by simp)))
   replace C := Lib.hid (C.out.app hn.out h4 h5 (fun b hb => by have := hlts b hb; have := hsW.out; omega) hown hgrow hat)
   replace hk := Lib.hid (hk.out.trans hkg)
   clear hown hgrow hat hfr hkg hn c7
   generalize w8.alloc (.cells #[.int .i64 (lkAt x s.ticks ads.length p).tick, .int .i64 (lkAt x s.ticks ads.length p).r0.k, .int .i64 (lkAt x s.ticks ads.length p).r0.i, .int .i64 (lkAt x s.ticks ads.length p).r1.k, .int .i64 (lkAt x s.ticks ads.length p).r1.i, .slice (lkAt x s.ticks ads.length p).at_ (lkAt x s.ticks ads.length p).n (lkAt x s.ticks ads.length p).cap] 48) = wz at *
   refine hK.out _ _ ?_ (fun hHeld => ?_)
   ·exact ⟨r8.out, r9.out⟩
   clear hK K
   try simp only [Act.put, Rgn.a, Rgn.b, Rgn.c]
   refine Rgn.one 5 rfl (by kernel_rfl) (fun K hK => ?_)
   rw [if_pos (by kernel_rfl)]
   refine Kit.wp_store_row 36 (.tmp 5) (.tmp 29) rfl w3.heap.size 0 #[.int .i64 (now x s.ticks (ads ++ [p])).n, .int .i64 (now x s.ticks (ads ++ [p])).tick, .int .i64 (now x s.ticks (ads ++ [p])).c, .int .i64 (now x s.ticks (ads ++ [p])).v, .slice (now x s.ticks (ads ++ [p])).pa (now x s.ticks (ads ++ [p])).n (now x s.ticks (ads ++ [p])).pc, .slice (now x s.ticks (ads ++ [p])).na (now x s.ticks (ads ++ [p])).n (now x s.ticks (ads ++ [p])).nc, .int .i64 ((now x s.ticks (ads ++ [p])).h0.ag 0), .int .i64 ((now x s.ticks (ads ++ [p])).h0.ag 1), .int .i64 ((now x s.ticks (ads ++ [p])).h0.ag 2), .int .i64 ((now x s.ticks (ads ++ [p])).h0.ag 3), .int .i64 ((now x s.ticks (ads ++ [p])).h0.ag 4), .int .i64 ((now x s.ticks (ads ++ [p])).h0.ag 5), .int .i64 ((now x s.ticks (ads ++ [p])).h0.ag 6), .int .i64 ((now x s.ticks (ads ++ [p])).h0.ag 7), .int .i64 ((now x s.ticks (ads ++ [p])).h0.port), .int .i64 ((now x s.ticks (ads ++ [p])).h0.age), .int .i64 ((now x s.ticks (ads ++ [p])).h0.hold), .int .i64 ((now x s.ticks (ads ++ [p])).h0.pos), .int .i64 ((now x s.ticks (ads ++ [p])).h1.ag 0), .int .i64 ((now x s.ticks (ads ++ [p])).h1.ag 1), .int .i64 ((now x s.ticks (ads ++ [p])).h1.ag 2), .int .i64 ((now x s.ticks (ads ++ [p])).h1.ag 3), .int .i64 ((now x s.ticks (ads ++ [p])).h1.ag 4), .int .i64 ((now x s.ticks (ads ++ [p])).h1.ag 5), .int .i64 ((now x s.ticks (ads ++ [p])).h1.ag 6), .int .i64 ((now x s.ticks (ads ++ [p])).h1.ag 7), .int .i64 ((now x s.ticks (ads ++ [p])).h1.port), .int .i64 ((now x s.ticks (ads ++ [p])).h1.age), .int .i64 ((now x s.ticks (ads ++ [p])).h1.hold), .int .i64 ((now x s.ticks (ads ++ [p])).h1.pos)] rfl rfl r5.out (by simp [Wd.cells]) sizeWorld (by first | rfl | (simp [Value.oneCell']; done) | decide) ?_
   intro w10 hW10
   have hgs := grown_stored hW10
   replace C := Lib.hid (C.out.box hgs (by simp) (Nat.le_refl _))
   replace hk := Lib.hid (hk.out.trans (Rg.keeps_stored hW10))
   replace r5 : Hid (Kit.Row w10 w3.heap.size (now x s.ticks (ads ++ [p])).cells) := Lib.hid (r5.out.all hW10 rfl)
   replace r7 := Lib.hid (row_kept r7.out hgs (fun e => by injection e with e; omega))
   replace rl := Lib.hid (row_kept rl.out hgs (fun e => by injection e with e; omega))
   replace rw := Lib.hid (row_kept rw.out hgs (fun e => by injection e with e; omega))
   replace r6 := Lib.hid (row_kept r6.out hgs (fun e => by injection e with e; omega))
   replace r8 := Lib.hid (row_kept r8.out hgs (fun e => by injection e with e; omega))
   replace r9 := Lib.hid (row_kept r9.out hgs (fun e => by injection e with e; omega))
   clear hgs hW10
   have c7 := r7.out.at_ 0 v rfl
   have z7 := r7.out.free 0 (by simp)
   refine hK.out _ _ ?_ (fun hHeld => ?_)
   ·exact ⟨r8.out, r9.out⟩
   clear hK K
   try simp only [Act.put, Rgn.a, Rgn.b, Rgn.c]
   refine Rgn.one 6 rfl (by kernel_rfl) (fun K hK => ?_)
   go_simp
   have hgs := grown_set w10 (L0 + 1) 0 (.slice (some ⟨g2, 0, none⟩) (ads.length + 1) cp2)
   replace C := Lib.hid (C.out.box hgs (by simp) (by omega))
   replace hk := Lib.hid (hk.out.trans (KeepsOthers.setCell w10 ⟨L0 + 1, 0, none⟩ (.slice (some ⟨g2, 0, none⟩) (ads.length + 1) cp2)))
   replace r7 : Hid (Kit.Row _ (L0 + 1) [(.slice (some ⟨g2, 0, none⟩) (ads.length + 1) cp2)]) := Lib.hid ((r7.out.set 0 (.slice (some ⟨g2, 0, none⟩) (ads.length + 1) cp2) (by simp)).cast rfl)
   replace r5 := Lib.hid (row_kept r5.out hgs (fun e => by injection e with e; omega))
   replace rl := Lib.hid (row_kept rl.out hgs (fun e => by injection e with e; omega))
   replace rw := Lib.hid (row_kept rw.out hgs (fun e => by injection e with e; omega))
   replace r6 := Lib.hid (row_kept r6.out hgs (fun e => by injection e with e; omega))
   replace r8 := Lib.hid (row_kept r8.out hgs (fun e => by injection e with e; omega))
   replace r9 := Lib.hid (row_kept r9.out hgs (fun e => by injection e with e; omega))
   clear hgs c7 z7
   refine hK.out _ _ ?_ (fun hHeld => ?_)
   ·exact ⟨r8.out, r9.out⟩
   clear hK K
   try simp only [Act.put, Rgn.a, Rgn.b, Rgn.c]
   refine wpAnyH_done (by kernel_rfl) ?_ _
   exact ⟨hk.out, _, ⟨C.out.less (fun b hb => List.mem_cons_of_mem _ (List.mem_cons_of_mem _ hb)), r5.out, r7.out, rl.out⟩, rw.out, r6.out⟩
  ·go_simp
   have ba : Below w8.heap.size w8 (w8.alloc (.cells #[.int .i64 (lkAt x s.ticks ads.length p).tick, .int .i64 (lkAt x s.ticks ads.length p).r0.k, .int .i64 (lkAt x s.ticks ads.length p).r0.i, .int .i64 (lkAt x s.ticks ads.length p).r1.k, .int .i64 (lkAt x s.ticks ads.length p).r1.i, .slice (lkAt x s.ticks ads.length p).at_ (lkAt x s.ticks ads.length p).n (lkAt x s.ticks ads.length p).cap] 48)) := (Below.refl _ _).alloc (Nat.le_refl _) _
   replace C := Lib.hid (C.out.below ba)
   replace hn := Lib.hid (Kit.own_below hn.out ba)
   replace hk := Lib.hid (hk.out.trans (KeepsOthers.alloc w8 (.cells #[.int .i64 (lkAt x s.ticks ads.length p).tick, .int .i64 (lkAt x s.ticks ads.length p).r0.k, .int .i64 (lkAt x s.ticks ads.length p).r0.i, .int .i64 (lkAt x s.ticks ads.length p).r1.k, .int .i64 (lkAt x s.ticks ads.length p).r1.i, .slice (lkAt x s.ticks ads.length p).at_ (lkAt x s.ticks ads.length p).n (lkAt x s.ticks ads.length p).cap] 48)))
   replace r5 := Lib.hid (r5.out.below ba)
   replace r7 := Lib.hid (r7.out.below ba)
   replace rl := Lib.hid (rl.out.below ba)
   replace rw := Lib.hid (rw.out.below ba)
   replace r6 := Lib.hid (r6.out.below ba)
   replace r8 := Lib.hid (r8.out.below ba)
   replace r9 := Lib.hid (r9.out.below ba)
   have hss : (w8.alloc (.cells #[.int .i64 (lkAt x s.ticks ads.length p).tick, .int .i64 (lkAt x s.ticks ads.length p).r0.k, .int .i64 (lkAt x s.ticks ads.length p).r0.i, .int .i64 (lkAt x s.ticks ads.length p).r1.k, .int .i64 (lkAt x s.ticks ads.length p).r1.i, .slice (lkAt x s.ticks ads.length p).at_ (lkAt x s.ticks ads.length p).n (lkAt x s.ticks ads.length p).cap] 48)).heap.size = w8.heap.size + 1 := by simp
   clear ba c7
   have c7 := r7.out.at_ 0 v rfl
   refine hK.out _ _ ?_ (fun hHeld => ?_)
   ·exact ⟨r8.out, r9.out⟩
   clear hK K
   try simp only [Act.put, Rgn.a, Rgn.b, Rgn.c]
   refine Rgn.one 1 rfl (by kernel_rfl) (fun K hK => ?_)
   go_simp
   refine hK.out _ _ ?_ (fun hHeld => ?_)
   ·exact ⟨r8.out, r9.out⟩
   clear hK K
   try simp only [Act.put, Rgn.a, Rgn.b, Rgn.c]
   refine Rgn.one 4 rfl (by kernel_rfl) (fun K hK => ?_)
   rw [if_pos (by kernel_rfl)]
   refine wp_append_at (.tmp 30) (.tmp 32) 40 rfl (w3.heap.size + 1) 48 i0 (.agg #[.int .i64 0, .int .i64 0, .int .i64 0, .int .i64 0, .int .i64 0, .slice none 0 0]) 6 64 Tryz.underlying40 hi hz0 hz1 hz2 rfl (by decide) _ _ _ rfl C.out.lk ⟨w8.heap.size, 0, none⟩ 1 1 [.int .i64 (lkAt x s.ticks ads.length p).tick, .int .i64 (lkAt x s.ticks ads.length p).r0.k, .int .i64 (lkAt x s.ticks ads.length p).r0.i, .int .i64 (lkAt x s.ticks ads.length p).r1.k, .int .i64 (lkAt x s.ticks ads.length p).r1.i, .slice (lkAt x s.ticks ads.length p).at_ (lkAt x s.ticks ads.length p).n (lkAt x s.ticks ads.length p).cap] rfl rfl ?c1 ?c2 ?c3 ?c4 ?c5 ?_
   case c1 => exact news_look w8 _
   case c2 => intro u hu; simp only [List.mem_cons, List.not_mem_nil, or_false] at hu; rcases hu with rfl | rfl | rfl | rfl | rfl | rfl <;> rfl
   case c3 => unfold maxLen; omega
   case c4 => omega
   case c5 => have := C.out.old.size; have := (own_lt' hn.out _ rfl); omega
   intro v2 w9 hown hgrow hat
   obtain ⟨g2, cp2, rfl, _, _⟩ := hown.form (by omega)
   have hfr := C.out.fr
   have hkg := KeepsOthers.of_grownBy hgrow (fun j o hj ho => own_cells C.out.lk j o hj ho)
   replace r5 := Lib.hid (row_kept r5.out hgrow (fun e => (hfr _ e).1 (by simp)))
   replace r7 := Lib.hid (row_kept r7.out hgrow (fun e => (hfr _ e).1 (by simp)))
   replace rl := Lib.hid (row_kept rl.out hgrow (fun e => (hfr _ e).1 (by simp)))
   replace rw := Lib.hid (row_kept rw.out hgrow (fun e => (hfr _ e).1 (by simp)))
   replace r6 := Lib.hid (row_kept r6.out hgrow (fun e => (hfr _ e).1 (by simp)))
   replace r8 := Lib.hid (row_kept r8.out hgrow (fun e => (hfr _ e).1 (by simp)))
   replace r9 := Lib.hid (row_kept r9.out hgrow (fun e => (hfr _ e).1 (by simp)))
   replace C := Lib.hid (C.out.app hn.out h4 h5 (fun b hb => by have := hlts b hb; have := hsW.out; omega) hown hgrow hat)
   replace hk := Lib.hid (hk.out.trans hkg)
   clear hown hgrow hat hfr hkg hn c7
   generalize w8.alloc (.cells #[.int .i64 (lkAt x s.ticks ads.length p).tick, .int .i64 (lkAt x s.ticks ads.length p).r0.k, .int .i64 (lkAt x s.ticks ads.length p).r0.i, .int .i64 (lkAt x s.ticks ads.length p).r1.k, .int .i64 (lkAt x s.ticks ads.length p).r1.i, .slice (lkAt x s.ticks ads.length p).at_ (lkAt x s.ticks ads.length p).n (lkAt x s.ticks ads.length p).cap] 48) = wz at *
   refine hK.out _ _ ?_ (fun hHeld => ?_)
   ·exact ⟨r8.out, r9.out⟩
   clear hK K
   try simp only [Act.put, Rgn.a, Rgn.b, Rgn.c]
   refine Rgn.one 5 rfl (by kernel_rfl) (fun K hK => ?_)
   rw [if_pos (by kernel_rfl)]
   refine Kit.wp_store_row 36 (.tmp 5) (.tmp 29) rfl w3.heap.size 0 #[.int .i64 (now x s.ticks (ads ++ [p])).n, .int .i64 (now x s.ticks (ads ++ [p])).tick, .int .i64 (now x s.ticks (ads ++ [p])).c, .int .i64 (now x s.ticks (ads ++ [p])).v, .slice (now x s.ticks (ads ++ [p])).pa (now x s.ticks (ads ++ [p])).n (now x s.ticks (ads ++ [p])).pc, .slice (now x s.ticks (ads ++ [p])).na (now x s.ticks (ads ++ [p])).n (now x s.ticks (ads ++ [p])).nc, .int .i64 ((now x s.ticks (ads ++ [p])).h0.ag 0), .int .i64 ((now x s.ticks (ads ++ [p])).h0.ag 1), .int .i64 ((now x s.ticks (ads ++ [p])).h0.ag 2), .int .i64 ((now x s.ticks (ads ++ [p])).h0.ag 3), .int .i64 ((now x s.ticks (ads ++ [p])).h0.ag 4), .int .i64 ((now x s.ticks (ads ++ [p])).h0.ag 5), .int .i64 ((now x s.ticks (ads ++ [p])).h0.ag 6), .int .i64 ((now x s.ticks (ads ++ [p])).h0.ag 7), .int .i64 ((now x s.ticks (ads ++ [p])).h0.port), .int .i64 ((now x s.ticks (ads ++ [p])).h0.age), .int .i64 ((now x s.ticks (ads ++ [p])).h0.hold), .int .i64 ((now x s.ticks (ads ++ [p])).h0.pos), .int .i64 ((now x s.ticks (ads ++ [p])).h1.ag 0), .int .i64 ((now x s.ticks (ads ++ [p])).h1.ag 1), .int .i64 ((now x s.ticks (ads ++ [p])).h1.ag 2), .int .i64 ((now x s.ticks (ads ++ [p])).h1.ag 3), .int .i64 ((now x s.ticks (ads ++ [p])).h1.ag 4), .int .i64 ((now x s.ticks (ads ++ [p])).h1.ag 5), .int .i64 ((now x s.ticks (ads ++ [p])).h1.ag 6), .int .i64 ((now x s.ticks (ads ++ [p])).h1.ag 7), .int .i64 ((now x s.ticks (ads ++ [p])).h1.port), .int .i64 ((now x s.ticks (ads ++ [p])).h1.age), .int .i64 ((now x s.ticks (ads ++ [p])).h1.hold), .int .i64 ((now x s.ticks (ads ++ [p])).h1.pos)] rfl rfl r5.out (by simp [Wd.cells]) sizeWorld (by first | rfl | (simp [Value.oneCell']; done) | decide) ?_
   intro w10 hW10
   have hgs := grown_stored hW10
   replace C := Lib.hid (C.out.box hgs (by simp) (Nat.le_refl _))
   replace hk := Lib.hid (hk.out.trans (Rg.keeps_stored hW10))
   replace r5 : Hid (Kit.Row w10 w3.heap.size (now x s.ticks (ads ++ [p])).cells) := Lib.hid (r5.out.all hW10 rfl)
   replace r7 := Lib.hid (row_kept r7.out hgs (fun e => by injection e with e; omega))
   replace rl := Lib.hid (row_kept rl.out hgs (fun e => by injection e with e; omega))
   replace rw := Lib.hid (row_kept rw.out hgs (fun e => by injection e with e; omega))
   replace r6 := Lib.hid (row_kept r6.out hgs (fun e => by injection e with e; omega))
   replace r8 := Lib.hid (row_kept r8.out hgs (fun e => by injection e with e; omega))
   replace r9 := Lib.hid (row_kept r9.out hgs (fun e => by injection e with e; omega))
   clear hgs hW10
   have c7 := r7.out.at_ 0 v rfl
   have z7 := r7.out.free 0 (by simp)
   refine hK.out _ _ ?_ (fun hHeld => ?_)
   ·exact ⟨r8.out, r9.out⟩
   clear hK K
   try simp only [Act.put, Rgn.a, Rgn.b, Rgn.c]
   refine Rgn.one 6 rfl (by kernel_rfl) (fun K hK => ?_)
   go_simp
   have hgs := grown_set w10 (L0 + 1) 0 (.slice (some ⟨g2, 0, none⟩) (ads.length + 1) cp2)
   replace C := Lib.hid (C.out.box hgs (by simp) (by omega))
   replace hk := Lib.hid (hk.out.trans (KeepsOthers.setCell w10 ⟨L0 + 1, 0, none⟩ (.slice (some ⟨g2, 0, none⟩) (ads.length + 1) cp2)))
   replace r7 : Hid (Kit.Row _ (L0 + 1) [(.slice (some ⟨g2, 0, none⟩) (ads.length + 1) cp2)]) := Lib.hid ((r7.out.set 0 (.slice (some ⟨g2, 0, none⟩) (ads.length + 1) cp2) (by simp)).cast rfl)
   replace r5 := Lib.hid (row_kept r5.out hgs (fun e => by injection e with e; omega))
   replace rl := Lib.hid (row_kept rl.out hgs (fun e => by injection e with e; omega))
   replace rw := Lib.hid (row_kept rw.out hgs (fun e => by injection e with e; omega))
   replace r6 := Lib.hid (row_kept r6.out hgs (fun e => by injection e with e; omega))
   replace r8 := Lib.hid (row_kept r8.out hgs (fun e => by injection e with e; omega))
   replace r9 := Lib.hid (row_kept r9.out hgs (fun e => by injection e with e; omega))
   clear hgs c7 z7
   refine hK.out _ _ ?_ (fun hHeld => ?_)
   ·exact ⟨r8.out, r9.out⟩
   clear hK K
   try simp only [Act.put, Rgn.a, Rgn.b, Rgn.c]
   refine wpAnyH_done (by kernel_rfl) ?_ _
   exact ⟨hk.out, _, ⟨C.out.less (fun b hb => List.mem_cons_of_mem _ (List.mem_cons_of_mem _ hb)), r5.out, r7.out, rl.out⟩, rw.out, r6.out⟩
 case done =>
  rintro D W hD ⟨ads, v, hn, M⟩ hdef
  subst hBx
  dsimp only at M hn
  have rb := Lib.hid (RB3.out.kept M.core.old (by omega))
  have r5 : Hid (Kit.Row W w3.heap.size (now x s.ticks ads).cells) := Lib.hid M.r5
  have r7 : Hid (Kit.Row W (L0 + 1) [v]) := Lib.hid M.r7
  have C := Lib.hid M.core
  have hdf := Lib.hid hdef
  have hDw := (Array.getElem?_eq_some_iff.1 hdef).1
  have h63 := HD.out.size
  clear RB7 HC7 hC0 M0 HC2 HD RB rw rl hdef b7
  simp only [Exit.inBlock, Exit.then]
  iterate 2 (first | go_back | go_step)
  clear M
  have c7 := r7.out.at_ 0 v rfl
  refine wp_region_noPanic ?_
  refine wp_region_held_drew (S := (fun w' => w'.cell? ⟨L0 + 1, 0, none⟩ = some v)) (by kernel_rfl) ?_ (fun hHeld => ?_)
  ·go_keep
  refine Rgn.tk 0 rfl ?_
  try simp only [Act.put, Rgn.a, Rgn.b, Rgn.c]
  refine Rgn.tk 2 rfl ?_
  try simp only [Act.put, Rgn.a, Rgn.b, Rgn.c]
  refine Rgn.one 1 rfl (by kernel_rfl) (fun K hK => ?_)
  rw [if_pos (by kernel_rfl)]
  refine Kit.wp_load_row 36 (.tmp 5) rfl w3.heap.size 0 rfl r5.out.drew [.int .i64 (now x s.ticks ads).n, .int .i64 (now x s.ticks ads).tick, .int .i64 (now x s.ticks ads).c, .int .i64 (now x s.ticks ads).v, .slice (now x s.ticks ads).pa (now x s.ticks ads).n (now x s.ticks ads).pc, .slice (now x s.ticks ads).na (now x s.ticks ads).n (now x s.ticks ads).nc, .int .i64 ((now x s.ticks ads).h0.ag 0), .int .i64 ((now x s.ticks ads).h0.ag 1), .int .i64 ((now x s.ticks ads).h0.ag 2), .int .i64 ((now x s.ticks ads).h0.ag 3), .int .i64 ((now x s.ticks ads).h0.ag 4), .int .i64 ((now x s.ticks ads).h0.ag 5), .int .i64 ((now x s.ticks ads).h0.ag 6), .int .i64 ((now x s.ticks ads).h0.ag 7), .int .i64 ((now x s.ticks ads).h0.port), .int .i64 ((now x s.ticks ads).h0.age), .int .i64 ((now x s.ticks ads).h0.hold), .int .i64 ((now x s.ticks ads).h0.pos), .int .i64 ((now x s.ticks ads).h1.ag 0), .int .i64 ((now x s.ticks ads).h1.ag 1), .int .i64 ((now x s.ticks ads).h1.ag 2), .int .i64 ((now x s.ticks ads).h1.ag 3), .int .i64 ((now x s.ticks ads).h1.ag 4), .int .i64 ((now x s.ticks ads).h1.ag 5), .int .i64 ((now x s.ticks ads).h1.ag 6), .int .i64 ((now x s.ticks ads).h1.ag 7), .int .i64 ((now x s.ticks ads).h1.port), .int .i64 ((now x s.ticks ads).h1.age), .int .i64 ((now x s.ticks ads).h1.hold), .int .i64 ((now x s.ticks ads).h1.pos)] rfl _ Tryz.underlying36 rfl sizeWorld ?_
  refine hK.out _ _ ?_ (fun hHeld => ?_)
  ·first | go_keep | ((try dsimp only); (repeat' apply And.intro) <;> first | assumption | go_simp)
  clear hK K
  try simp only [Act.put, Rgn.a, Rgn.b, Rgn.c]
  refine Rgn.one 3 rfl (by kernel_rfl) (fun K hK => ?_)
  rw [if_pos (by kernel_rfl)]
  refine Kit.wp_store_row 36 (.tmp 3) (.tmp 35) rfl (w.heap.size + 1) 0 #[.int .i64 (now x s.ticks ads).n, .int .i64 (now x s.ticks ads).tick, .int .i64 (now x s.ticks ads).c, .int .i64 (now x s.ticks ads).v, .slice (now x s.ticks ads).pa (now x s.ticks ads).n (now x s.ticks ads).pc, .slice (now x s.ticks ads).na (now x s.ticks ads).n (now x s.ticks ads).nc, .int .i64 ((now x s.ticks ads).h0.ag 0), .int .i64 ((now x s.ticks ads).h0.ag 1), .int .i64 ((now x s.ticks ads).h0.ag 2), .int .i64 ((now x s.ticks ads).h0.ag 3), .int .i64 ((now x s.ticks ads).h0.ag 4), .int .i64 ((now x s.ticks ads).h0.ag 5), .int .i64 ((now x s.ticks ads).h0.ag 6), .int .i64 ((now x s.ticks ads).h0.ag 7), .int .i64 ((now x s.ticks ads).h0.port), .int .i64 ((now x s.ticks ads).h0.age), .int .i64 ((now x s.ticks ads).h0.hold), .int .i64 ((now x s.ticks ads).h0.pos), .int .i64 ((now x s.ticks ads).h1.ag 0), .int .i64 ((now x s.ticks ads).h1.ag 1), .int .i64 ((now x s.ticks ads).h1.ag 2), .int .i64 ((now x s.ticks ads).h1.ag 3), .int .i64 ((now x s.ticks ads).h1.ag 4), .int .i64 ((now x s.ticks ads).h1.ag 5), .int .i64 ((now x s.ticks ads).h1.ag 6), .int .i64 ((now x s.ticks ads).h1.ag 7), .int .i64 ((now x s.ticks ads).h1.port), .int .i64 ((now x s.ticks ads).h1.age), .int .i64 ((now x s.ticks ads).h1.hold), .int .i64 ((now x s.ticks ads).h1.pos)] rfl rfl rb.out.drew (by simp) sizeWorld (by first | rfl | (simp [Value.oneCell']; done) | decide) ?_
  intro w9 hW9
  have r9 : Hid (Kit.Row w9 (w.heap.size + 1) [.int .i64 (now x s.ticks ads).n, .int .i64 (now x s.ticks ads).tick, .int .i64 (now x s.ticks ads).c, .int .i64 (now x s.ticks ads).v, .slice (now x s.ticks ads).pa (now x s.ticks ads).n (now x s.ticks ads).pc, .slice (now x s.ticks ads).na (now x s.ticks ads).n (now x s.ticks ads).nc, .int .i64 ((now x s.ticks ads).h0.ag 0), .int .i64 ((now x s.ticks ads).h0.ag 1), .int .i64 ((now x s.ticks ads).h0.ag 2), .int .i64 ((now x s.ticks ads).h0.ag 3), .int .i64 ((now x s.ticks ads).h0.ag 4), .int .i64 ((now x s.ticks ads).h0.ag 5), .int .i64 ((now x s.ticks ads).h0.ag 6), .int .i64 ((now x s.ticks ads).h0.ag 7), .int .i64 ((now x s.ticks ads).h0.port), .int .i64 ((now x s.ticks ads).h0.age), .int .i64 ((now x s.ticks ads).h0.hold), .int .i64 ((now x s.ticks ads).h0.pos), .int .i64 ((now x s.ticks ads).h1.ag 0), .int .i64 ((now x s.ticks ads).h1.ag 1), .int .i64 ((now x s.ticks ads).h1.ag 2), .int .i64 ((now x s.ticks ads).h1.ag 3), .int .i64 ((now x s.ticks ads).h1.ag 4), .int .i64 ((now x s.ticks ads).h1.ag 5), .int .i64 ((now x s.ticks ads).h1.ag 6), .int .i64 ((now x s.ticks ads).h1.ag 7), .int .i64 ((now x s.ticks ads).h1.port), .int .i64 ((now x s.ticks ads).h1.age), .int .i64 ((now x s.ticks ads).h1.hold), .int .i64 ((now x s.ticks ads).h1.pos)]) := Lib.hid (rb.out.drew.all hW9 rfl)
  have hg9 := Lib.hid (trans_some' (grown_drew W) (grown_stored hW9))
  clear hW9
  replace c7 := (row_kept r7.out hg9.out (fun e => by injection e with e; omega)).at_ 0 v rfl
  refine hK.out _ _ ?_ (fun hHeld => ?_)
  ·first | go_keep | ((try dsimp only); (repeat' apply And.intro) <;> first | assumption | go_simp)
  clear hK K
  try simp only [Act.put, Rgn.a, Rgn.b, Rgn.c]
  refine Rgn.tk 4 rfl ?_
  try simp only [Act.put, Rgn.a, Rgn.b, Rgn.c]
  refine wpAnyH_done (by kernel_rfl) ?_ _
  refine NoPanic.normal ?_
  iterate 3 (first | go_back | go_step)
  have hdf9 : w9.heap[D]? = some (.deferred (some [])) := (hg9.out.block D hDw (fun e => by injection e with e; omega)).trans hdf.out
  have hgD := grownBy_putObj' w9 D (.deferred none)
  have lk := ownsRow_putObj (C.out.lk.kept hg9.out (Or.inr (fun e => by have := (own_lt' C.out.lk _ e).1; omega))) (.deferred none) hdf9 rfl
  have nd : ∀ j p, ads[j]? = some p → (w9.putObj D (.deferred none)).ownsRow (w3.heap.size + 1) 60 4 (.slice (some ⟨p.1, 0, none⟩) x.n p.2) x.n (Cl.cells (wat x s.ticks (j + 1)).nodes) := fun j p hp => ownsRow_putObj ((C.out.nd j p hp).kept hg9.out (Or.inr (fun e => by have := (own_lt' (C.out.nd j p hp) _ e).1; omega))) (.deferred none) hdf9 rfl
  have hsame : ∀ b, b < w3.heap.size → w2.heap.size ≤ b → (w9.putObj D (.deferred none)).heap[b]? = w3.heap[b]? := fun b hb hb2 => ((hgD.block b (by have := hg9.out.size; have := C.out.old.size; omega) (fun e => by injection e with e; omega)).trans (hg9.out.block b (by have := C.out.old.size; omega) (fun e => by injection e with e; omega))).trans (C.out.old.block b hb)
  have hss : w3.heap.size ≤ (w9.putObj D (.deferred none)).heap.size := by have := hg9.out.size; have := C.out.old.size; have := hgD.size; omega
  have hpw : Whole (w9.putObj D (.deferred none)) x.pa x.n x.power := Lies.same HT.out.power hss (fun b o e hb => hsame b hb (fpa b o e))
  have hnw : Nodes (w9.putObj D (.deferred none)) x.na x.n x.nodes := Lies.same HT.out.nodes hss (fun b o e hb => hsame b hb (fna b o e))
  have hbl : Below w.heap.size w (w9.putObj D (.deferred none)) := ((HC3.out.trans (C.out.old.mono HC3.out.size)).grown hg9.out (HC3.out.trans (C.out.old.mono HC3.out.size)).size (fun r e => by injection e with e; omega)).grown hgD (by have := HC3.out.size; have := C.out.old.size; have := hg9.out.size; omega) (fun r e => by injection e with e; have := HC3.out.size; omega)
  obtain ⟨A, cap, ev, hlk, haw⟩ := looks_there (w3 := w3) hx lk nd
  rw [hn] at ev hlk
  subst ev
  have hrr := row_put (.deferred none) r9.out (by simp) hdf9 rfl
  refine ⟨by simp, .inl ⟨_, _, rfl, run_takeDeferred hdf9, ?_⟩⟩
  exact ⟨_, Kit.res_tct Tryz.results13 _ _ (Kit.Var.mk' hrr Tryz.underlying36 rfl sizeWorld), x, A, cap, ads, hX, hx, rfl, hn, hlk, haw.mono (by have := HC3.out.size; omega), now_there (w3 := w3) hx hpw hnw nd, hbl⟩
end Sw
end Go.Proofs.YtgiojagdmglinaaGreatDoor
