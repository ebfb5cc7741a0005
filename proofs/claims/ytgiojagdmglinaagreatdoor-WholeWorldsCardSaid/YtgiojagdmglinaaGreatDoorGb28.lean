/-
  Part 28 of a merged text.
-/
import Derived.Test.YtgiojagdmglinaaGreatDoorGb01
import Derived.Test.YtgiojagdmglinaaGreatDoorGb27
import Derived.Test.YtgiojagdmglinaaGreatDoorGb24
import Derived.Maps.AppendAt
import Derived.Test.YtgiojagdmglinaaGreatDoorGb25
import Derived.Test.YtgiojagdmglinaaGreatDoorGb21
import Derived.Deep.Cut
import Derived.Great.Walk
set_option linter.unusedVariables false
set_option linter.unusedSimpArgs false
set_option maxRecDepth 100000
namespace Go.Proofs.YtgiojagdmglinaaGreatDoor
open Go Go.RowKit
instance : Inhabited Ch := ⟨⟨ByteArray.empty, ByteArray.empty, none, 0, 0, [], 0⟩⟩
structure Chs (w : World) (A : Option Addr) (n : Nat) (l : List Ch) : Prop where
 lies : Lies w A n 4 (l.map Ch.cells)
 there : ∀ ch ∈ l, ch.There w
theorem Chs.below {w W : World} {A : Option Addr} {n : Nat} {l : List Ch} (h : Chs w A n l) (hb : Below w.heap.size w W) : Chs W A n l := ⟨h.lies.below hb, fun z hz => (h.there z hz).below hb⟩
theorem Chs.len {w : World} {A : Option Addr} {n : Nat} {l : List Ch} (h : Chs w A n l) : l.length = n := by have := h.lies.len; simpa using this
theorem Chs.at_ {w : World} {A : Option Addr} {n : Nat} {l : List Ch} (h : Chs w A n l) {q : Nat} (hq : q < n) : ∃ b off, A = some ⟨b, off, none⟩ ∧ b < w.heap.size ∧
  w.cell? ⟨b, off + q * 4, none⟩ = some (.string (l.getD q default).b0) ∧ w.cell? ⟨b, off + q * 4 + 1, none⟩ = some (.string (l.getD q default).b1) ∧
  w.cell? ⟨b, off + q * 4 + 2, none⟩ = some (.slice (l.getD q default).at_ (l.getD q default).np (l.getD q default).cap) ∧ w.cell? ⟨b, off + q * 4 + 3, none⟩ = some (.int .i64 (l.getD q default).link) := by
 obtain ⟨b, off, e, hlt, hc⟩ := h.lies.at_ (by omega)
 refine ⟨b, off, e, hlt, ?_⟩
 have hl : q < l.length := by rw [h.len]; exact hq
 have hj : (l.map Ch.cells)[q]? = some (l.getD q default).cells := by rw [List.getElem?_map, List.getD_eq_getElem?_getD, List.getElem?_eq_getElem hl]; rfl
 exact ⟨hc q _ hj 0 _ rfl, hc q _ hj 1 _ rfl, hc q _ hj 2 _ rfl, hc q _ hj 3 _ rfl⟩
theorem Chs.one {w : World} {A : Option Addr} {n : Nat} {l : List Ch} (h : Chs w A n l) {q : Nat} (hq : q < n) : (l.getD q default).There w := by
 have hl : q < l.length := by rw [h.len]; exact hq
 rw [List.getD_eq_getElem?_getD, List.getElem?_eq_getElem hl]
 exact h.there _ (List.getElem_mem hl)
namespace Sw
def wat (x : Wd) (l : List Ch) : Nat → Wd
 | 0 => x
 | k + 1 => nxt (wat x l k) (l.getD k default)
theorem wat_right {x : Wd} (hx : x.Right) (l : List Ch) : ∀ k, (wat x l k).Right
 | 0 => hx
 | k + 1 => nxt_right (wat_right hx l k) _
theorem wat_n (x : Wd) (l : List Ch) : ∀ k, (wat x l k).n = x.n
 | 0 => rfl
 | k + 1 => wat_n x l k
theorem wat_pa (x : Wd) (l : List Ch) : ∀ k, (wat x l k).pa = x.pa
 | 0 => rfl
 | k + 1 => wat_pa x l k
theorem wat_power (x : Wd) (l : List Ch) : ∀ k, (wat x l k).power = x.power
 | 0 => rfl
 | k + 1 => wat_power x l k
def put (x : Wd) (p : Nat × Nat) : Wd := { x with na := some ⟨p.1, 0, none⟩, nc := p.2 }
def now (x : Wd) (l : List Ch) (ads : List (Nat × Nat)) : Wd := match ads.getLast? with | none => wat x l ads.length | some p => put (wat x l ads.length) p
theorem put_right {x : Wd} (hx : x.Right) (p : Nat × Nat) : (put x p).Right := ⟨hx.lo, hx.hi, hx.tick, hx.fault, hx.pl, hx.pw, hx.nl, hx.nd, hx.r0, hx.r1⟩
theorem now_right {x : Wd} (hx : x.Right) (l : List Ch) (ads : List (Nat × Nat)) : (now x l ads).Right := by
 unfold now
 split
 ·exact wat_right hx l _
 ·exact put_right (wat_right hx l _) _
theorem now_nil (x : Wd) (l : List Ch) : now x l [] = x := rfl
theorem now_snoc (x : Wd) (l : List Ch) (ads : List (Nat × Nat)) (p : Nat × Nat) : now x l (ads ++ [p]) = put (wat x l (ads.length + 1)) p := by
 unfold now
 rw [List.getLast?_append, List.getLast?_singleton, List.length_append]
 rfl
theorem r0_put (x : Wd) (p : Nat × Nat) (ch : Ch) : r0 (put x p) ch = r0 x ch := rfl
theorem r1_put (x : Wd) (p : Nat × Nat) (ch : Ch) : r1 (put x p) ch = r1 x ch := rfl
theorem nds_put (x : Wd) (p : Nat × Nat) (ch : Ch) : nds (put x p) ch = nds x ch := rfl
theorem nxt_now (x : Wd) (l : List Ch) (ads : List (Nat × Nat)) (p : Nat × Nat) : ({ nxt (now x l ads) (l.getD ads.length default) with na := some ⟨p.1, 0, none⟩, nc := p.2 } : Wd) = now x l (ads ++ [p]) := by
 rw [now_snoc]
 unfold now
 split <;> rfl
theorem nds_now (x : Wd) (l : List Ch) (ads : List (Nat × Nat)) : nds (now x l ads) (l.getD ads.length default) = (wat x l (ads.length + 1)).nodes := by
 unfold now
 split <;> rfl
theorem now_n (x : Wd) (l : List Ch) (ads : List (Nat × Nat)) : (now x l ads).n = x.n := by
 unfold now
 split
 ·exact wat_n x l _
 ·exact wat_n x l _
def lkAt (x : Wd) (l : List Ch) (k : Nat) (p : Nat × Nat) : Lk := ⟨(wat x l k).tick, (r0 (wat x l k) (l.getD k default)).2, (r1 (wat x l k) (l.getD k default)).2, some ⟨p.1, 0, none⟩, x.n, p.2, (wat x l (k + 1)).nodes⟩
def lks (x : Wd) (l : List Ch) (ads : List (Nat × Nat)) : List Lk := ads.mapIdx fun k p => lkAt x l k p
theorem lks_len (x : Wd) (l : List Ch) (ads : List (Nat × Nat)) : (lks x l ads).length = ads.length := by simp [lks]
theorem lks_snoc (x : Wd) (l : List Ch) (ads : List (Nat × Nat)) (p : Nat × Nat) : lks x l (ads ++ [p]) = lks x l ads ++ [lkAt x l ads.length p] := by simp [lks, List.mapIdx_append]
theorem look_now (x : Wd) (l : List Ch) (ads : List (Nat × Nat)) (p : Nat × Nat) : look (now x l ads) (l.getD ads.length default) p.1 p.2 = (lkAt x l ads.length p).cells := by
 unfold look Lk.cells lkAt
 rw [now_n]
 unfold now
 split <;> rfl
def flat (q : List Lk) : List Value := (q.map Lk.cells).flatten
theorem flat_snoc (q : List Lk) (z : Lk) : flat (q ++ [z]) = flat q ++ z.cells := by simp [flat]
theorem grown_below {W W' : World} (h : Below W.heap.size W W') : W.grownBy W' none := ⟨h.os, h.tape, h.output, h.size, fun k hk _ => h.block k hk⟩
theorem grown_set (W : World) (b o : Nat) (v : Value) : W.grownBy (W.setCell ⟨b, o, none⟩ v) (some b) :=
 ⟨rfl, rfl, rfl, (KeepsWalks.setCell W _ v).size, fun k _ hk => Below.heap_setCell _ _ _ k (fun e => hk (by rw [e]))⟩
theorem grown_sets (vs : List Value) : ∀ (W : World) (b o : Nat), W.grownBy (W.setCells b o vs) (some b) := by
 induction vs with
 | nil => intro W b o; exact ⟨rfl, rfl, rfl, Nat.le_refl _, fun _ _ _ => rfl⟩
 | cons v r ih => intro W b o; exact (grown_set W b o v).trans (ih _ b (o + 1))
theorem grown_stored {W W' : World} {b o : Nat} {cs : List Value} (s : Kit.Stored W W' b o cs) : W.grownBy W' (some b) := by
 unfold Kit.Stored at s; subst s; exact grown_sets cs W b o
theorem row_kept {W W' : World} {row : Option Nat} {b : Nat} {L : List Value} (h : Kit.Row W b L) (hg : W.grownBy W' row) (hne : row ≠ some b) : Kit.Row W' b L where
 lt := Nat.lt_of_lt_of_le h.lt hg.size
 at_ := fun o v ho => by
  have e := hg.block b h.lt (fun e => hne e.symm)
  have := h.at_ o v ho
  rw [← this]
  exact World.cell?_of_block e
 free := fun o ho => by
  have e := hg.block b h.lt (fun e => hne e.symm)
  rw [← h.free o ho]
  exact World.frozen?_of_block e
theorem row_put {W : World} {b l : Nat} {L : List Value} {o : Obj} (o' : Obj) (h : Kit.Row W b L) (hL : 0 < L.length) (hl : W.heap[l]? = some o) (ho : o.isCells = false) : Kit.Row (W.putObj l o') b L := by
 refine row_kept h (grownBy_putObj' W l o') ?_
 intro e
 injection e with e
 subst e
 obtain ⟨v, hv⟩ : ∃ v, L[0]? = some v := ⟨_, List.getElem?_eq_getElem hL⟩
 have hc := h.at_ 0 v hv
 unfold World.cell? at hc
 rw [hl] at hc
 cases o <;> first | (cases ho; done) | (simp at hc)
theorem own_lt' {w : World} {base size : Nat} {e : TypeId} {v : Value} {n : Nat} {xs : List Value} (h : w.ownsRow base e size v n xs) (u : Nat) (hu : v.ownBlock = some u) : base ≤ u ∧ u < w.heap.size := by
 rcases h.2 with ⟨rfl, _⟩ | ⟨g, cap, cur, rfl, hb, hgg, _⟩
 ·simp [Value.ownBlock] at hu
 ·have : g = u := by simpa [Value.ownBlock] using hu
  subst this
  exact ⟨hb, (Array.getElem?_eq_some_iff.1 hgg).1⟩
structure Core (w3 : World) (x : Wd) (l : List Ch) (bs : List Nat) (W : World) (ads : List (Nat × Nat)) (v : Value) : Prop where
 old : Below w3.heap.size w3 W
 lk : W.ownsRow (w3.heap.size + 1) 48 6 v ads.length (flat (lks x l ads))
 nd : ∀ j p, ads[j]? = some p → W.ownsRow (w3.heap.size + 1) 60 4 (.slice (some ⟨p.1, 0, none⟩) x.n p.2) x.n (Cl.cells (wat x l (j + 1)).nodes)
 fr : ∀ u, v.ownBlock = some u → u ∉ bs ∧ ∀ p ∈ ads, p.1 ≠ u
 fn : ∀ p ∈ ads, p.1 ∉ bs
theorem Core.kept {w3 : World} {x : Wd} {l : List Ch} {bs : List Nat} {W W' : World} {ads : List (Nat × Nat)} {v : Value} {row : Option Nat} (h : Core w3 x l bs W ads v) (hg : W.grownBy W' row)
  (hr : ∀ r, row = some r → w3.heap.size ≤ r ∧ v.ownBlock ≠ some r ∧ ∀ p ∈ ads, p.1 ≠ r) : Core w3 x l bs W' ads v where
 old := h.old.grown hg h.old.size (fun r e => (hr r e).1)
 lk := h.lk.kept hg (by
  cases row with
  | none => cases v.ownBlock <;> simp
  | some r => exact Or.inr (hr r rfl).2.1)
 nd := fun j p hp => (h.nd j p hp).kept hg (by
  right
  intro e
  have hm : p ∈ ads := List.mem_of_getElem? hp
  exact (hr p.1 (by rw [← e]; rfl)).2.2 p hm rfl)
 fr := h.fr
 fn := h.fn
theorem Core.box {w3 : World} {x : Wd} {l : List Ch} {bs : List Nat} {W W' : World} {ads : List (Nat × Nat)} {v : Value} {b : Nat} (h : Core w3 x l bs W ads v) (hg : W.grownBy W' (some b)) (hb : b ∈ bs) (hw : w3.heap.size ≤ b) : Core w3 x l bs W' ads v :=
 h.kept hg (fun r e => by
  injection e with e
  subst e
  exact ⟨hw, fun e2 => (h.fr b e2).1 hb, fun p hp e2 => h.fn p hp (e2 ▸ hb)⟩)
theorem Core.below {w3 : World} {x : Wd} {l : List Ch} {bs : List Nat} {W W' : World} {ads : List (Nat × Nat)} {v : Value} (h : Core w3 x l bs W ads v) (hb : Below W.heap.size W W') : Core w3 x l bs W' ads v := h.kept (grown_below hb) (fun r e => by cases e)
theorem Core.ad_lt {w3 : World} {x : Wd} {l : List Ch} {bs : List Nat} {W : World} {ads : List (Nat × Nat)} {v : Value} (h : Core w3 x l bs W ads v) (p : Nat × Nat) (hp : p ∈ ads) : p.1 < W.heap.size := by
 obtain ⟨j, hj⟩ := List.getElem?_of_mem hp
 exact (own_lt' (h.nd j p hj) p.1 rfl).2
theorem Core.add {w3 : World} {x : Wd} {l : List Ch} {bs : List Nat} {W : World} {ads : List (Nat × Nat)} {v : Value} (h : Core w3 x l bs W ads v) (b : Nat) (hb : W.heap.size ≤ b) : Core w3 x l (b :: bs) W ads v where
 old := h.old
 lk := h.lk
 nd := h.nd
 fr := fun u hu => ⟨fun hm => by
  rcases List.mem_cons.1 hm with e | e
  ·have := (own_lt' h.lk u hu).2; omega
  ·exact (h.fr u hu).1 e, (h.fr u hu).2⟩
 fn := fun p hp hm => by
  rcases List.mem_cons.1 hm with e | e
  ·have := h.ad_lt p hp; omega
  ·exact h.fn p hp e
theorem Core.less {w3 : World} {x : Wd} {l : List Ch} {bs bs' : List Nat} {W : World} {ads : List (Nat × Nat)} {v : Value} (h : Core w3 x l bs W ads v) (hs : ∀ b ∈ bs', b ∈ bs) : Core w3 x l bs' W ads v :=
 ⟨h.old, h.lk, h.nd, fun u hu => ⟨fun hm => (h.fr u hu).1 (hs u hm), (h.fr u hu).2⟩, fun p hp hm => h.fn p hp (hs _ hm)⟩
theorem Core.put {w3 : World} {x : Wd} {l : List Ch} {bs : List Nat} {W : World} {ads : List (Nat × Nat)} {v : Value} {r : Nat} {o : Obj} (o' : Obj) (h : Core w3 x l bs W ads v) (hl : W.heap[r]? = some o) (ho : o.isCells = false) (hw : w3.heap.size ≤ r) : Core w3 x l bs (W.putObj r o') ads v where
 old := h.old.grown (grownBy_putObj' W r o') h.old.size (fun k e => by cases e; exact hw)
 lk := ownsRow_putObj h.lk o' hl ho
 nd := fun j p hp => ownsRow_putObj (h.nd j p hp) o' hl ho
 fr := h.fr
 fn := h.fn
theorem Core.app {w3 : World} {x : Wd} {l : List Ch} {bs : List Nat} {W W' : World} {ads : List (Nat × Nat)} {v v' : Value} {p : Nat × Nat} (h : Core w3 x l bs W ads v)
  (hn : W.ownsRow (w3.heap.size + 1) 60 4 (.slice (some ⟨p.1, 0, none⟩) x.n p.2) x.n (Cl.cells (wat x l (ads.length + 1)).nodes)) (hp : p.1 ∉ bs) (hpv : v.ownBlock ≠ some p.1) (hbs : ∀ b ∈ bs, b < W.heap.size)
  (ho : W'.ownsRow (w3.heap.size + 1) 48 6 v' (ads.length + 1) (flat (lks x l ads) ++ (lkAt x l ads.length p).cells)) (hg : W.grownBy W' v.ownBlock) (hat : v'.ownBlock = v.ownBlock ∨ v'.ownBlock = some W.heap.size) :
  Core w3 x l bs W' (ads ++ [p]) v' where
 old := h.old.grown hg h.old.size (fun r e => by have := (own_lt' h.lk r e).1; omega)
 lk := by rw [lks_snoc, flat_snoc, List.length_append]; exact ho
 nd := fun j q hq => by
  rcases Nat.lt_trichotomy j ads.length with hj | hj | hj
  ·rw [List.getElem?_append_left hj] at hq
   refine (h.nd j q hq).kept hg (Or.inr ?_)
   intro e
   exact (h.fr q.1 (by rw [← e]; rfl)).2 q (List.mem_of_getElem? hq) rfl
  ·subst hj
   rw [List.getElem?_append_right (Nat.le_refl _)] at hq
   simp at hq
   subst hq
   exact hn.kept hg (Or.inr (fun e => hpv (by rw [← e]; rfl)))
  ·rw [List.getElem?_eq_none (by simp; omega)] at hq
   cases hq
 fr := fun u hu => by
  rcases hat with e | e
  ·rw [e] at hu
   refine ⟨(h.fr u hu).1, fun q hq => ?_⟩
   rcases List.mem_append.1 hq with hq | hq
   ·exact (h.fr u hu).2 q hq
   ·simp at hq
    subst hq
    intro e2
    exact hpv (by rw [hu, e2])
  ·rw [e] at hu
   injection hu with hu
   subst hu
   refine ⟨fun hm => by have := hbs _ hm; omega, fun q hq => ?_⟩
   rcases List.mem_append.1 hq with hq | hq
   ·have := h.ad_lt q hq; omega
   ·simp at hq
    subst hq
    have := (own_lt' hn q.1 rfl).2
    omega
 fn := fun q hq => by
  rcases List.mem_append.1 hq with hq | hq
  ·exact h.fn q hq
  ·simp at hq
   subst hq
   exact hp
end Sw
end Go.Proofs.YtgiojagdmglinaaGreatDoor
namespace Go.Proofs.YtgiojagdmglinaaGreatDoor
open Go Go.RowKit
namespace Sw
theorem Core.there {w3 : World} {x : Wd} {l : List Ch} {bs : List Nat} {W : World} {ads : List (Nat × Nat)} {v : Value} (h : Core w3 x l bs W ads v) (hx : x.Right) (ht : x.There w3) : (now x l ads).There W where
 power := by
  have : Whole W (now x l ads).pa (now x l ads).n (now x l ads).power := by
   rw [now_n]
   unfold now
   split
   ·rw [wat_pa, wat_power]; exact ht.power.below h.old
   ·show Whole W (wat x l ads.length).pa x.n (wat x l ads.length).power
    rw [wat_pa, wat_power]; exact ht.power.below h.old
  exact this
 nodes := by
  rw [now_n]
  by_cases hn : ads = []
  ·subst hn
   exact ht.nodes.below h.old
  ·obtain ⟨q, p, rfl⟩ : ∃ q p, ads = q ++ [p] := ⟨ads.dropLast, ads.getLast hn, (List.dropLast_concat_getLast hn).symm⟩
   rw [now_snoc]
   have h1 := h.nd q.length p (by rw [List.getElem?_append_right (Nat.le_refl _)]; simp)
   exact Tk.own_nodes h1 (by have := (wat_right hx l (q.length + 1)).nl; rw [wat_n] at this; exact this)
section
variable {P : Program}
theorem wp_wide {o : Oper} {a : Act} {w : World} {K : Act → World → Prop} {Q : Exit → Act → World → Prop} (n : Nat) (h : o.wp P a w K Q) : o.wpIn Fence.wide n P a w K Q := by
 refine ⟨fun _ _ => trivial, ?_⟩
 rw [Fence.wide_round, Oper.semAt_none]
 unfold Oper.wp at h
 generalize (execOp a.eval o).run P w = x at h
 cases x with
 | ok y w =>
  cases y with
  | value v => exact h
  | skip => exact h
  | defer d => exact h
  | enter f args => exact ⟨fun h0 => by simp [Fence.wide] at h0, callsIn_wide.2 h⟩
  | row row args =>
   refine ⟨fun h0 => by simp [Fence.wide] at h0, fun c cs _ => ?_⟩
   obtain ⟨v, w', hv, hs⟩ := h c cs
   exact ⟨v, w', hv, stepsIn_wide.2 hs⟩
  | round => exact h.elim
  | _ => exact h.elim
 | halt y w => cases y <;> exact h
theorem op_wide {ops : Array Oper} {rest : List Oper} {o : Oper} {a : Act} {w : World} {Q : Exit → Act → World → Prop} {n : Nat} (hw : Region.wanted o (yielded ops a.tmps) = true) (h : o.wp P a w (wpListIn Fence.wide n P ops Q rest) Q) : wpListIn Fence.wide n P ops Q (o :: rest) a w := by
 unfold wpListIn
 rw [if_pos hw]
 exact wp_wide n h
theorem val_wide {ops : Array Oper} {rest : List Oper} {o : Oper} {a : Act} {w : World} {Q : Exit → Act → World → Prop} {n : Nat} (v : Value) (hw : Region.wanted o (yielded ops a.tmps) = true) (hr : (execOp a.eval o).run P w = .ok (.value v) w) (h : wpListIn Fence.wide n P ops Q rest (a.put o.dst v) w) : wpListIn Fence.wide n P ops Q (o :: rest) a w := by
 refine op_wide hw ?_
 unfold Oper.wp
 rw [hr]
 exact h
theorem call_wide {ops : Array Oper} {rest : List Oper} {o : Oper} {a : Act} {w : World} {Q : Exit → Act → World → Prop} {lp : Nat} {f : FuncId} {tmps : Array Value} {assign body : Code} (hw : Region.wanted o (yielded ops a.tmps) = true) (hr : (execOp a.eval o).run P w = .ok (.round lp f tmps assign body) w)
  (h : RoundIn Fence.wide 8 P lp f tmps assign body w fun e w'' => match e with | .returned v => wpListIn Fence.wide 9 P ops Q rest (a.put o.dst v) w'' | .panicked chain => Q (.panic chain) a w'' | .outgrown => LetsOut Q) : wpListIn Fence.wide 9 P ops Q (o :: rest) a w := by
 unfold wpListIn
 rw [if_pos hw]
 refine ⟨fun _ _ => trivial, ?_⟩
 rw [Fence.wide_round, Oper.semAt_none, hr]
 refine ⟨fun _ => by omega, h.mono ?_⟩
 rintro e w'' he
 cases e <;> exact he
end
abbrev Rd := List (Nat × Nat) × (Nat × Nat) × Nat
structure Bx where
 b5 : Nat
 b7 : Nat
 bl : Nat
 bw : Nat
 ta : Option Addr
 tn : Nat
 tc : Nat
structure Mem (w3 : World) (x : Wd) (l : List Ch) (B : Bx) (bs : List Nat) (W : World) (ads : List (Nat × Nat)) (v : Value) : Prop where
 core : Core w3 x l bs W ads v
 r5 : Kit.Row W B.b5 (now x l ads).cells
 r7 : Kit.Row W B.b7 [v]
 rl : Kit.Row W B.bl [.slice B.ta B.tn B.tc]
def encs (x : Wd) (l : List Ch) (d : Rd) : Array Value := #[.agg (now x l (d.1 ++ [d.2.1])).cells.toArray, .agg (lkAt x l d.1.length d.2.1).cells.toArray]
def At (w3 : World) (x : Wd) (l : List Ch) (B : Bx) (d : Rd) (W : World) : Prop := ∃ v, Mem w3 x l B [d.2.2, B.bw, B.bl, B.b7, B.b5] W d.1 v ∧ Kit.Row W B.bw (now x l d.1).cells ∧ Kit.Row W d.2.2 (now x l (d.1 ++ [d.2.1])).cells ∧
 W.ownsRow (w3.heap.size + 1) 60 4 (.slice (some ⟨d.2.1.1, 0, none⟩) x.n d.2.1.2) x.n (Cl.cells (wat x l (d.1.length + 1)).nodes) ∧ d.2.1.1 ∉ [d.2.2, B.bw, B.bl, B.b7, B.b5] ∧ v.ownBlock ≠ some d.2.1.1 ∧ (B.b5 < d.2.2 ∧ B.b7 < d.2.2 ∧ B.bl < d.2.2 ∧ B.bw < d.2.2)
def Behind (w3 : World) (x : Wd) (l : List Ch) (B : Bx) (d : Rd) (W : World) : Prop := ∃ v, Mem w3 x l B [d.2.2, B.bw, B.bl, B.b7, B.b5] W (d.1 ++ [d.2.1]) v ∧ Kit.Row W B.bw (now x l d.1).cells ∧ Kit.Row W d.2.2 (now x l (d.1 ++ [d.2.1])).cells
def Done (w3 : World) (x : Wd) (l : List Ch) (B : Bx) (W : World) : Prop := ∃ ads v, ads.length = B.tn ∧ Mem w3 x l B [B.bw, B.bl, B.b7, B.b5] W ads v
set_option maxHeartbeats 2000000 in
theorem iter_calls (w3 : World) (x : Wd) (l : List Ch) (B : Bx) (hx : x.Right) (ht : x.There w3) (hl : Chs w3 B.ta B.tn l) (hm : B.tn ≤ 1000000) (h5 : w3.heap.size ≤ B.b5) (hw5 : w3.heap.size ≤ B.bw) (lp : Nat) (Bk : World → Prop) (hBk : ∀ W W', Bk W → KeepsOthers W W' → Bk W')
  (hY : ∀ (d : Rd) W, d.1.length < B.tn → At w3 x l B d W → Bk W → YieldAt Fence.wide 8 Tryz.prog lp (encs x l d) W fun e W' => e = .returned (.bool true) ∧ Behind w3 x l B d W' ∧ Bk W')
  (hne : B.bw ≠ B.bl ∧ B.bw ≠ B.b7 ∧ B.bw ≠ B.b5) (W : World) (v0 : Value) (h0 : Mem w3 x l B [B.bw, B.bl, B.b7, B.b5] W [] v0) (hbw : Kit.Row W B.bw x.cells) (hk0 : Bk W) :
  Calls Tryz.prog 61 #[.func (.yield lp) #[] #[], .pointer (some ⟨B.bl, 0, none⟩), .pointer (some ⟨B.bw, 0, none⟩)] W fun e W' => (∃ v, e = .returned v) ∧ Done w3 x l B W' ∧ Bk W' := by
 have kst : ∀ (ads : List (Nat × Nat)) (v : Value) (bs : List Nat) W (h : Core w3 x l bs W ads v) (hq : ads.length < B.tn), Calls Tryz.prog 15 #[.agg (now x l ads).cells.toArray, .agg (l.getD ads.length default).cells.toArray] W fun e w' => ∃ g cap, e = .returned (.tuple #[.agg (now x l (ads ++ [(g, cap)])).cells.toArray, .agg (lkAt x l ads.length (g, cap)).cells.toArray, .int .i64 0]) ∧
   w'.ownsRow W.heap.size 60 4 (.slice (some ⟨g, 0, none⟩) x.n cap) x.n (Cl.cells (wat x l (ads.length + 1)).nodes) ∧ Below W.heap.size W w' := by
  intro ads v bs W h hq
  refine (step_calls (now x l ads) (l.getD ads.length default) W (now_right hx l ads) (h.there hx ht) ((hl.one hq).below h.old)).mono ?_
  rintro e w' ⟨g, cap, rfl, hn, hb⟩
  refine ⟨g, cap, ?_, ?_, hb⟩
  ·rw [← nxt_now, ← look_now]
  ·rw [nds_now, now_n] at hn; exact hn
 have KST := Lib.hid kst
 have HY := Lib.hid hY
 have HL := Lib.hid hl
 have HBK := Lib.hid hBk
 have M0 := Lib.hid h0
 have RW0 := Lib.hid hbw
 have K0 := Lib.hid hk0
 have cl := h0.rl.at_ 0 (.slice B.ta B.tn B.tc) rfl
 clear kst hY hl hBk h0 hbw hk0
 go_enter Tryz.func61, Tryz.ntmps61
 go_wp2_with fail
 go_loopw [11] (fun vi wr => ∃ (ads : List (Nat × Nat)) (v : Value), ads.length ≤ B.tn ∧ vi = .int .i64 ads.length ∧ Hid (Mem w3 x l B [B.bw, B.bl, B.b7, B.b5] wr ads v) ∧ Hid (Kit.Row wr B.bw (now x l ads).cells) ∧ Hid (Bk wr)) (fun vi _ => B.tn - (intOf vi).toNat)
 case atStart => exact ⟨[], v0, by simp, rfl, M0, RW0, K0⟩
 case round =>
  clear M0 RW0 K0 cl
  obtain ⟨ads, v, hk, rfl, M, RW, K⟩ := hrel
  by_cases hlt : ads.length < B.tn
  ·obtain ⟨tb, toff, ea, tlt, m0, m1, m2, m3⟩ := (HL.out.below M.out.core.old).at_ hlt
   obtain ⟨ch, hch⟩ : ∃ ch, ch = l.getD ads.length default := ⟨_, rfl⟩
   have kst := KST.out ads
   rw [← hch] at kst m0 m1 m2 m3
   have KS := Lib.hid kst
   have HCH := Lib.hid hch
   clear kst hch
   rw [ea]
   obtain ⟨y, hy0⟩ : ∃ y, y = now x l ads := ⟨_, rfl⟩
   have kst := KS.out
   have rw0 := RW.out
   rw [← hy0] at kst rw0
   have KS2 := Lib.hid kst
   have RY := Lib.hid rw0
   have HY0 := Lib.hid hy0
   clear kst rw0 KS RW hy0
   go_upto_region 3 with fail
   clear m0 m1 m2 m3
   have RC := Kit.Row.newAt wr #[.string ch.b0, .string ch.b1, .slice ch.at_ ch.np ch.cap, .int .i64 ch.link] 53 wr.heap.size rfl
   have b1 : Below wr.heap.size wr (wr.alloc (.cells #[.string ch.b0, .string ch.b1, .slice ch.at_ ch.np ch.cap, .int .i64 ch.link] 53)) := (Below.refl _ _).alloc (Nat.le_refl _) _
   have M1 : Hid (Mem w3 x l B [B.bw, B.bl, B.b7, B.b5] (wr.alloc (.cells #[.string ch.b0, .string ch.b1, .slice ch.at_ ch.np ch.cap, .int .i64 ch.link] 53)) ads v) := Lib.hid ⟨M.out.core.below b1, M.out.r5.below b1, M.out.r7.below b1, M.out.rl.below b1⟩
   have RY1 := Lib.hid (RY.out.below b1)
   have K1 := Lib.hid (HBK.out _ _ K.out (Rg.keeps_below b1))
   clear M RY K b1
   generalize wr.alloc (.cells #[.string ch.b0, .string ch.b1, .slice ch.at_ ch.np ch.cap, .int .i64 ch.link] 53) = w1 at *
   generalize wr.heap.size = n5 at *
   have a0 := RC.at_ 0 (.string ch.b0) rfl
   have a1 := RC.at_ 1 (.string ch.b1) rfl
   have a2 := RC.at_ 2 (.slice ch.at_ ch.np ch.cap) rfl
   have a3 := RC.at_ 3 (.int .i64 ch.link) rfl
   clear RC
   go_step
   refine Kit.wpList_load_row rfl 36 (.tmp 2) rfl B.bw 0 rfl RY1.out [.int .i64 y.n, .int .i64 y.tick, .int .i64 y.c, .int .i64 y.v, .slice y.pa y.n y.pc, .slice y.na y.n y.nc, .int .i64 (y.h0.ag 0), .int .i64 (y.h0.ag 1), .int .i64 (y.h0.ag 2), .int .i64 (y.h0.ag 3), .int .i64 (y.h0.ag 4), .int .i64 (y.h0.ag 5), .int .i64 (y.h0.ag 6), .int .i64 (y.h0.ag 7), .int .i64 y.h0.port, .int .i64 y.h0.age, .int .i64 y.h0.hold, .int .i64 y.h0.pos, .int .i64 (y.h1.ag 0), .int .i64 (y.h1.ag 1), .int .i64 (y.h1.ag 2), .int .i64 (y.h1.ag 3), .int .i64 (y.h1.ag 4), .int .i64 (y.h1.ag 5), .int .i64 (y.h1.ag 6), .int .i64 (y.h1.ag 7), .int .i64 y.h1.port, .int .i64 y.h1.age, .int .i64 y.h1.hold, .int .i64 y.h1.pos] rfl _ Tryz.underlying36 rfl sizeWorld ?_
   go_wp2_with fail
   refine (KS2.out v _ w1 M1.out.core hlt).mono ?_
   rintro e w4 ⟨g, cap, rfl, hn, b4⟩
   have hg1 := (own_lt' hn g rfl)
   have hsz := b4.size
   have hlw := RY1.out.lt
   have hl5 := M1.out.r5.lt
   have hl7 := M1.out.r7.lt
   have hll := M1.out.rl.lt
   have hfr := fun u hu => (own_lt' M1.out.core.lk u hu).2
   have ho3 := M1.out.core.old.size
   obtain ⟨z, hz0⟩ : ∃ z, z = now x l (ads ++ [(g, cap)]) := ⟨_, rfl⟩
   obtain ⟨q, hq0⟩ : ∃ q, q = lkAt x l ads.length (g, cap) := ⟨_, rfl⟩
   rw [← hz0, ← hq0]
   have HZ0 := Lib.hid hz0
   have HQ0 := Lib.hid hq0
   have M4 : Hid (Mem w3 x l B [B.bw, B.bl, B.b7, B.b5] w4 ads v) := Lib.hid ⟨M1.out.core.below b4, M1.out.r5.below b4, M1.out.r7.below b4, M1.out.rl.below b4⟩
   have RY4 := Lib.hid (RY1.out.below b4)
   have K4 := Lib.hid (HBK.out _ _ K1.out (Rg.keeps_below b4))
   have HN := Lib.hid hn
   have h31 : w3.heap.size + 1 ≤ w1.heap.size := by omega
   clear M1 RY1 K1 b4 hn hz0 hq0 a0 a1 a2 a3 KS2
   dsimp only
   iterate 19 (first | go_guarded | go_step | go_upon | go_back)
   refine Kit.wpList_store_row rfl 36 (.tmp 6) (.tmp 19) rfl w4.heap.size 0 #[.int .i64 z.n, .int .i64 z.tick, .int .i64 z.c, .int .i64 z.v, .slice z.pa z.n z.pc, .slice z.na z.n z.nc, .int .i64 (z.h0.ag 0), .int .i64 (z.h0.ag 1), .int .i64 (z.h0.ag 2), .int .i64 (z.h0.ag 3), .int .i64 (z.h0.ag 4), .int .i64 (z.h0.ag 5), .int .i64 (z.h0.ag 6), .int .i64 (z.h0.ag 7), .int .i64 z.h0.port, .int .i64 z.h0.age, .int .i64 z.h0.hold, .int .i64 z.h0.pos, .int .i64 (z.h1.ag 0), .int .i64 (z.h1.ag 1), .int .i64 (z.h1.ag 2), .int .i64 (z.h1.ag 3), .int .i64 (z.h1.ag 4), .int .i64 (z.h1.ag 5), .int .i64 (z.h1.ag 6), .int .i64 (z.h1.ag 7), .int .i64 z.h1.port, .int .i64 z.h1.age, .int .i64 z.h1.hold, .int .i64 z.h1.pos] rfl rfl ((Kit.Row.newAt w4 _ _ _ rfl).alloc _) (by simp) sizeWorld (by first | rfl | (simp [Value.oneCell']; done) | decide) ?_
   intro W6 hW6
   have RZ6 : Kit.Row W6 w4.heap.size [.int .i64 z.n, .int .i64 z.tick, .int .i64 z.c, .int .i64 z.v, .slice z.pa z.n z.pc, .slice z.na z.n z.nc, .int .i64 (z.h0.ag 0), .int .i64 (z.h0.ag 1), .int .i64 (z.h0.ag 2), .int .i64 (z.h0.ag 3), .int .i64 (z.h0.ag 4), .int .i64 (z.h0.ag 5), .int .i64 (z.h0.ag 6), .int .i64 (z.h0.ag 7), .int .i64 z.h0.port, .int .i64 z.h0.age, .int .i64 z.h0.hold, .int .i64 z.h0.pos, .int .i64 (z.h1.ag 0), .int .i64 (z.h1.ag 1), .int .i64 (z.h1.ag 2), .int .i64 (z.h1.ag 3), .int .i64 (z.h1.ag 4), .int .i64 (z.h1.ag 5), .int .i64 (z.h1.ag 6), .int .i64 (z.h1.ag 7), .int .i64 z.h1.port, .int .i64 z.h1.age, .int .i64 z.h1.hold, .int .i64 z.h1.pos] := ((Kit.Row.newAt w4 _ _ _ rfl).alloc _).all hW6 rfl
   have RL6 := (Kit.Row.newAt (w4.alloc (.cells #[.int .i64 0, .int .i64 0, .int .i64 0, .int .i64 0, .slice none 0 0, .slice none 0 0, .int .i64 0, .int .i64 0, .int .i64 0, .int .i64 0, .int .i64 0, .int .i64 0, .int .i64 0, .int .i64 0, .int .i64 0, .int .i64 0, .int .i64 0, .int .i64 0, .int .i64 0, .int .i64 0, .int .i64 0, .int .i64 0, .int .i64 0, .int .i64 0, .int .i64 0, .int .i64 0, .int .i64 0, .int .i64 0, .int .i64 0, .int .i64 0] 36)) #[.int .i64 0, .int .i64 0, .int .i64 0, .int .i64 0, .int .i64 0, .slice none 0 0] 48 (w4.heap.size + 1) (by simp)).off hW6 (by omega)
   have b6 := Kit.below_of (((Below.refl w4.heap.size w4).alloc (Nat.le_refl _) (.cells #[.int .i64 0, .int .i64 0, .int .i64 0, .int .i64 0, .slice none 0 0, .slice none 0 0, .int .i64 0, .int .i64 0, .int .i64 0, .int .i64 0, .int .i64 0, .int .i64 0, .int .i64 0, .int .i64 0, .int .i64 0, .int .i64 0, .int .i64 0, .int .i64 0, .int .i64 0, .int .i64 0, .int .i64 0, .int .i64 0, .int .i64 0, .int .i64 0, .int .i64 0, .int .i64 0, .int .i64 0, .int .i64 0, .int .i64 0, .int .i64 0] 36)).alloc (by simp) (.cells #[.int .i64 0, .int .i64 0, .int .i64 0, .int .i64 0, .int .i64 0, .slice none 0 0] 48)) hW6 (Nat.le_refl _)
   clear hW6
   refine Kit.wpList_store_row rfl 48 (.tmp 7) (.tmp 20) rfl (w4.heap.size + 1) 0 #[.int .i64 q.tick, .int .i64 q.r0.k, .int .i64 q.r0.i, .int .i64 q.r1.k, .int .i64 q.r1.i, .slice q.at_ q.n q.cap] rfl rfl RL6 (by simp) sizeLook (by first | rfl | (simp [Value.oneCell']; done) | decide) ?_
   intro W7 hW7
   have RZ7 := Lib.hid (RZ6.off hW7 (by omega))
   have RL7 : Kit.Row W7 (w4.heap.size + 1) [.int .i64 q.tick, .int .i64 q.r0.k, .int .i64 q.r0.i, .int .i64 q.r1.k, .int .i64 q.r1.i, .slice q.at_ q.n q.cap] := RL6.all hW7 rfl
   have b7 := Kit.below_of b6 hW7 (by omega)
   clear hW7 b6 RZ6 RL6
   have C7 := (M4.out.core.add w4.heap.size (Nat.le_refl _)).kept (grown_below b7) (fun r e => by cases e)
   have M7 : Mem w3 x l B [w4.heap.size, B.bw, B.bl, B.b7, B.b5] W7 ads v := ⟨C7, M4.out.r5.below b7, M4.out.r7.below b7, M4.out.rl.below b7⟩
   have RY7 := RY4.out.below b7
   have K7 := HBK.out _ _ K4.out (Rg.keeps_below b7)
   have HN7 := Kit.own_weaken (Kit.own_below HN.out b7) h31
   have hAt : At w3 x l B (ads, (g, cap), w4.heap.size) W7 := ⟨v, M7, HY0.out ▸ RY7, HZ0.out ▸ RZ7.out, HN7, by
    simp only [List.mem_cons, List.not_mem_nil, or_false]
    omega, fun e => by have := hfr g e; omega, ⟨by dsimp only; omega, by dsimp only; omega, by dsimp only; omega, by dsimp only; omega⟩⟩
   have ry := HY.out (ads, (g, cap), w4.heap.size) W7 hlt hAt K7
   unfold encs at ry
   simp only at ry
   rw [← HZ0.out, ← HQ0.out] at ry
   obtain ⟨fn, tmps, assign, body, hy, hR⟩ := ry
   have RL8 := Lib.hid RL7
   have HRR := Lib.hid hR
   clear C7 M7 RY7 K7 HN7 hAt RL7 b7 M4 RY4 K4 HN hR
   generalize w4.heap.size = n6 at *
   go_upto_region 4 with fail
   refine (wpIn_wide (n := 9)).1 ?_
   apply wpIn_region_lit
   refine val_wide (.int .i64 0) rfl (by first | (go_simp; done) | rfl) ?_
   try simp only [Act.put, Rgn.a, Rgn.b, Rgn.c]
   refine val_wide (.bool false) rfl (by first | (go_simp; done) | rfl) ?_
   try simp only [Act.put, Rgn.a, Rgn.b, Rgn.c]
   refine val_wide (.bool false) rfl (by first | (go_simp; done) | rfl) ?_
   try simp only [Act.put, Rgn.a, Rgn.b, Rgn.c]
   refine val_wide (.func (.yield lp) #[] #[]) rfl (by first | (go_simp; done) | rfl) ?_
   try simp only [Act.put, Rgn.a, Rgn.b, Rgn.c]
   refine op_wide rfl ?_
   refine Kit.wp_load_row 36 (.tmp 6) rfl n6 0 rfl RZ7.out [.int .i64 z.n, .int .i64 z.tick, .int .i64 z.c, .int .i64 z.v, .slice z.pa z.n z.pc, .slice z.na z.n z.nc, .int .i64 (z.h0.ag 0), .int .i64 (z.h0.ag 1), .int .i64 (z.h0.ag 2), .int .i64 (z.h0.ag 3), .int .i64 (z.h0.ag 4), .int .i64 (z.h0.ag 5), .int .i64 (z.h0.ag 6), .int .i64 (z.h0.ag 7), .int .i64 z.h0.port, .int .i64 z.h0.age, .int .i64 z.h0.hold, .int .i64 z.h0.pos, .int .i64 (z.h1.ag 0), .int .i64 (z.h1.ag 1), .int .i64 (z.h1.ag 2), .int .i64 (z.h1.ag 3), .int .i64 (z.h1.ag 4), .int .i64 (z.h1.ag 5), .int .i64 (z.h1.ag 6), .int .i64 (z.h1.ag 7), .int .i64 z.h1.port, .int .i64 z.h1.age, .int .i64 z.h1.hold, .int .i64 z.h1.pos] rfl _ Tryz.underlying36 rfl sizeWorld ?_
   try simp only [Act.put, Rgn.a, Rgn.b, Rgn.c]
   refine op_wide rfl ?_
   refine Kit.wp_load_row 48 (.tmp 7) rfl (n6 + 1) 0 rfl RL8.out [.int .i64 q.tick, .int .i64 q.r0.k, .int .i64 q.r0.i, .int .i64 q.r1.k, .int .i64 q.r1.i, .slice q.at_ q.n q.cap] rfl _ Tryz.underlying48 rfl sizeLook ?_
   try simp only [Act.put, Rgn.a, Rgn.b, Rgn.c]
   have hy2 : (Instr.yield lp #[.agg #[.int .i64 z.n, .int .i64 z.tick, .int .i64 z.c, .int .i64 z.v, .slice z.pa z.n z.pc, .slice z.na z.n z.nc, .int .i64 (z.h0.ag 0), .int .i64 (z.h0.ag 1), .int .i64 (z.h0.ag 2), .int .i64 (z.h0.ag 3), .int .i64 (z.h0.ag 4), .int .i64 (z.h0.ag 5), .int .i64 (z.h0.ag 6), .int .i64 (z.h0.ag 7), .int .i64 z.h0.port, .int .i64 z.h0.age, .int .i64 z.h0.hold, .int .i64 z.h0.pos, .int .i64 (z.h1.ag 0), .int .i64 (z.h1.ag 1), .int .i64 (z.h1.ag 2), .int .i64 (z.h1.ag 3), .int .i64 (z.h1.ag 4), .int .i64 (z.h1.ag 5), .int .i64 (z.h1.ag 6), .int .i64 (z.h1.ag 7), .int .i64 z.h1.port, .int .i64 z.h1.age, .int .i64 z.h1.hold, .int .i64 z.h1.pos], .agg #[.int .i64 q.tick, .int .i64 q.r0.k, .int .i64 q.r0.i, .int .i64 q.r1.k, .int .i64 q.r1.i, .slice q.at_ q.n q.cap]]).run Tryz.prog W7 = .ok (.round lp fn tmps assign body) W7 := hy
   refine call_wide rfl (lp := lp) (f := fn) (tmps := tmps) (assign := assign) (body := body) (by simp [execOp, resolve, Deferred.ofValue, invoke, go_sem, Act.eval, hy2, Result.andThen]) ?_
   refine HRR.out.mono ?_
   rintro e W8 ⟨rfl, hB8, hk8⟩
   dsimp only
   obtain ⟨v8, M8, RY8, RZ8⟩ := hB8
   dsimp only at M8 RY8 RZ8
   rw [← HZ0.out] at RZ8
   have M9 := Lib.hid M8
   have RY9 := Lib.hid RY8
   have RZ9 := Lib.hid RZ8
   have K9 := Lib.hid hk8
   clear M8 RY8 RZ8 hk8 hy hy2 RZ7 RL8 HRR hg1 hsz
   try simp only [Act.put, Rgn.a, Rgn.b, Rgn.c]
   refine val_wide (.bool false) rfl (by first | (go_simp; done) | rfl) ?_
   try simp only [Act.put, Rgn.a, Rgn.b, Rgn.c]
   refine val_wide (.bool false) rfl (by first | (go_simp; done) | rfl) ?_
   try simp only [Act.put, Rgn.a, Rgn.b, Rgn.c]
   apply wpListIn_nil
   show Exit.then _ _ Exit.normal _ _
   iterate 2 (first | go_back | go_step)
   go_upto_region 5 with fail
   go_step
   refine Kit.wpList_load_row rfl 36 (.tmp 6) rfl n6 0 rfl RZ9.out [.int .i64 z.n, .int .i64 z.tick, .int .i64 z.c, .int .i64 z.v, .slice z.pa z.n z.pc, .slice z.na z.n z.nc, .int .i64 (z.h0.ag 0), .int .i64 (z.h0.ag 1), .int .i64 (z.h0.ag 2), .int .i64 (z.h0.ag 3), .int .i64 (z.h0.ag 4), .int .i64 (z.h0.ag 5), .int .i64 (z.h0.ag 6), .int .i64 (z.h0.ag 7), .int .i64 z.h0.port, .int .i64 z.h0.age, .int .i64 z.h0.hold, .int .i64 z.h0.pos, .int .i64 (z.h1.ag 0), .int .i64 (z.h1.ag 1), .int .i64 (z.h1.ag 2), .int .i64 (z.h1.ag 3), .int .i64 (z.h1.ag 4), .int .i64 (z.h1.ag 5), .int .i64 (z.h1.ag 6), .int .i64 (z.h1.ag 7), .int .i64 z.h1.port, .int .i64 z.h1.age, .int .i64 z.h1.hold, .int .i64 z.h1.pos] rfl _ Tryz.underlying36 rfl sizeWorld ?_
   refine Kit.wpList_store_row rfl 36 (.tmp 2) (.tmp 31) rfl B.bw 0 #[.int .i64 z.n, .int .i64 z.tick, .int .i64 z.c, .int .i64 z.v, .slice z.pa z.n z.pc, .slice z.na z.n z.nc, .int .i64 (z.h0.ag 0), .int .i64 (z.h0.ag 1), .int .i64 (z.h0.ag 2), .int .i64 (z.h0.ag 3), .int .i64 (z.h0.ag 4), .int .i64 (z.h0.ag 5), .int .i64 (z.h0.ag 6), .int .i64 (z.h0.ag 7), .int .i64 z.h0.port, .int .i64 z.h0.age, .int .i64 z.h0.hold, .int .i64 z.h0.pos, .int .i64 (z.h1.ag 0), .int .i64 (z.h1.ag 1), .int .i64 (z.h1.ag 2), .int .i64 (z.h1.ag 3), .int .i64 (z.h1.ag 4), .int .i64 (z.h1.ag 5), .int .i64 (z.h1.ag 6), .int .i64 (z.h1.ag 7), .int .i64 z.h1.port, .int .i64 z.h1.age, .int .i64 z.h1.hold, .int .i64 z.h1.pos] rfl rfl RY9.out (by simp [Wd.cells]) sizeWorld (by first | rfl | (simp [Value.oneCell']; done) | decide) ?_
   intro W9 hW9
   have hgw := grown_stored hW9
   have MA : Hid (Mem w3 x l B [B.bw, B.bl, B.b7, B.b5] W9 (ads ++ [(g, cap)]) v8) := Lib.hid ⟨(M9.out.core.box hgw (by simp) hw5).less (fun b hb => List.mem_cons_of_mem _ hb), row_kept M9.out.r5 hgw (fun e => by injection e with e; omega), row_kept M9.out.r7 hgw (fun e => by injection e with e; omega), row_kept M9.out.rl hgw (fun e => by injection e with e; omega)⟩
   have RYA : Hid (Kit.Row W9 B.bw (now x l (ads ++ [(g, cap)])).cells) := Lib.hid (by rw [← HZ0.out]; exact RY9.out.all hW9 rfl)
   have KA := Lib.hid (HBK.out _ _ K9.out (Rg.keeps_stored hW9))
   clear hgw hW9 M9 RY9 K9 RZ9
   go_wp2_with fail
   go_roundw
   case rel => exact ⟨ads ++ [(g, cap)], v8, by simp; omega, by simp [go_sem], MA, RYA, KA⟩
   case measure => simp [intOf]; omega
  ·have hke : ads.length = B.tn := by omega
   go_wp2_with fail
   exact Go.Great.bodyPost_end0 rfl rfl ⟨⟨_, rfl⟩, ⟨ads, v, hke, M.out⟩, K.out⟩
end Sw
end Go.Proofs.YtgiojagdmglinaaGreatDoor
namespace Go.Proofs.YtgiojagdmglinaaGreatDoor
open Go Go.RowKit
namespace Sw
section
variable {P : Program}
theorem wp_append_at {o : Oper} {a : Act} {w : World} {K : Act → World → Prop} {Q : Exit → Act → World → Prop} (s x : Operand) (t : TypeId)
  (ho : o.op = .call { callee := .builtin .append, args := #[s, x], argTypes := #[t, t] })
  (base : Nat) (e : TypeId) (i : TypeInfo) (z : Value) (size bytes : Nat) (ht : P.underlying t = some (.slice e)) (hi : P.info? e = some i) (hz : i.zero = some z)
  (hsize : i.size = size) (hby : i.bytes = bytes) (hzs : z.cells.size = size) (hsz : 0 < size)
  (v : Value) (n : Nat) (xs : List Value) (hs : a.eval s = v) (hown : w.ownsRow base e size v n xs)
  (ad : Addr) (m c : Nat) (news : List Value) (hx : a.eval x = .slice (some ad) m c) (hl : news.length = m * size) (hnews : ∀ j u, news[j]? = some u → w.cell? (ad.add j) = some u) (h1 : ∀ u ∈ news, u.oneCell' = true)
  (h63 : n + m ≤ maxLen) (hbytes : (n + m) * bytes ≤ 140737488355328) (hbase : base ≤ w.heap.size)
  (h : ∀ v' w', w'.ownsRow base e size v' (n + m) (xs ++ news) → w.grownBy w' v.ownBlock → (v'.ownBlock = v.ownBlock ∨ v'.ownBlock = some w.heap.size) → K (a.put o.dst v') w') :
  o.wp P a w K Q := by
 obtain ⟨v', w', hr, h2, h3, h4, h5⟩ := run_append_own_at (P := P) w base t o.type e i z size bytes ht hi hz hsize hby hzs hsz v n xs hown ad m c news hl hnews h1 h63 hbytes hbase
 unfold Oper.wp execOp
 simp only [ho, resolve, invoke, builtin, Sem.run_bind, Sem.run_pure, Result.andThen_ok, List.map_toArray, List.map_cons, List.map_nil, hs, hx, hr]
 exact h v' w' h2 h3 h5
end
set_option maxHeartbeats 1000000 in
theorem ticks_calls (x : Wd) (ta : Option Addr) (tn tc : Nat) (w : World) :
  Calls Tryz.prog 33 #[.agg x.cells.toArray, .slice ta tn tc] w fun e w' => e = .returned (.func (.func 61) #[] #[.pointer (some ⟨w.heap.size + 1, 0, none⟩), .pointer (some ⟨w.heap.size, 0, none⟩)]) ∧
   Kit.Row w' w.heap.size x.cells ∧ Kit.Row w' (w.heap.size + 1) [.slice ta tn tc] ∧ Below w.heap.size w w' := by
 show Calls Tryz.prog 33 #[.agg #[.int .i64 x.n, .int .i64 x.tick, .int .i64 x.c, .int .i64 x.v, .slice x.pa x.n x.pc, .slice x.na x.n x.nc, .int .i64 (x.h0.ag 0), .int .i64 (x.h0.ag 1), .int .i64 (x.h0.ag 2), .int .i64 (x.h0.ag 3), .int .i64 (x.h0.ag 4), .int .i64 (x.h0.ag 5), .int .i64 (x.h0.ag 6), .int .i64 (x.h0.ag 7), .int .i64 x.h0.port, .int .i64 x.h0.age, .int .i64 x.h0.hold, .int .i64 x.h0.pos, .int .i64 (x.h1.ag 0), .int .i64 (x.h1.ag 1), .int .i64 (x.h1.ag 2), .int .i64 (x.h1.ag 3), .int .i64 (x.h1.ag 4), .int .i64 (x.h1.ag 5), .int .i64 (x.h1.ag 6), .int .i64 (x.h1.ag 7), .int .i64 x.h1.port, .int .i64 x.h1.age, .int .i64 x.h1.hold, .int .i64 x.h1.pos], .slice ta tn tc] w _
 go_enter Tryz.func33, Tryz.ntmps33
 go_wp2_with fail
 go_ret
 exact ⟨rfl, (Kit.Row.newAt w #[.int .i64 x.n, .int .i64 x.tick, .int .i64 x.c, .int .i64 x.v, .slice x.pa x.n x.pc, .slice x.na x.n x.nc, .int .i64 (x.h0.ag 0), .int .i64 (x.h0.ag 1), .int .i64 (x.h0.ag 2), .int .i64 (x.h0.ag 3), .int .i64 (x.h0.ag 4), .int .i64 (x.h0.ag 5), .int .i64 (x.h0.ag 6), .int .i64 (x.h0.ag 7), .int .i64 x.h0.port, .int .i64 x.h0.age, .int .i64 x.h0.hold, .int .i64 x.h0.pos, .int .i64 (x.h1.ag 0), .int .i64 (x.h1.ag 1), .int .i64 (x.h1.ag 2), .int .i64 (x.h1.ag 3), .int .i64 (x.h1.ag 4), .int .i64 (x.h1.ag 5), .int .i64 (x.h1.ag 6), .int .i64 (x.h1.ag 7), .int .i64 x.h1.port, .int .i64 x.h1.age, .int .i64 x.h1.hold, .int .i64 x.h1.pos] 36 w.heap.size rfl).alloc _, Kit.Row.newAt (w.alloc (.cells #[.int .i64 x.n, .int .i64 x.tick, .int .i64 x.c, .int .i64 x.v, .slice x.pa x.n x.pc, .slice x.na x.n x.nc, .int .i64 (x.h0.ag 0), .int .i64 (x.h0.ag 1), .int .i64 (x.h0.ag 2), .int .i64 (x.h0.ag 3), .int .i64 (x.h0.ag 4), .int .i64 (x.h0.ag 5), .int .i64 (x.h0.ag 6), .int .i64 (x.h0.ag 7), .int .i64 x.h0.port, .int .i64 x.h0.age, .int .i64 x.h0.hold, .int .i64 x.h0.pos, .int .i64 (x.h1.ag 0), .int .i64 (x.h1.ag 1), .int .i64 (x.h1.ag 2), .int .i64 (x.h1.ag 3), .int .i64 (x.h1.ag 4), .int .i64 (x.h1.ag 5), .int .i64 (x.h1.ag 6), .int .i64 (x.h1.ag 7), .int .i64 x.h1.port, .int .i64 x.h1.age, .int .i64 x.h1.hold, .int .i64 x.h1.pos] 36)) #[.slice ta tn tc] 30 (w.heap.size + 1) (by simp), ((Below.refl _ _).alloc (Nat.le_refl _) _).alloc (by simp) _⟩
end Sw
end Go.Proofs.YtgiojagdmglinaaGreatDoor
