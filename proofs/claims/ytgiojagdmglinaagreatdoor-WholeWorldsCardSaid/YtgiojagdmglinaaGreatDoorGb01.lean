/-
  Part 1 of a merged text.
-/
import Derived.RangeFuncNested
import Derived.RangeFuncCalls
import Derived.RangeFuncLeaves
import Derived.OwnWalkIn
import Derived.Deep.RegionHeld3
import Derived.Test.YtgiojagdmglinaaGreatDoorGb00
import Derived.Test.YtgiojagdmglinaaGreatDoorProg
import Derived.WalkKit
import Derived.WalkLawsBesides
import Derived.WalkSpells
import Derived.Lib.Hide
import Derived.Deep.LoopGhost
import Derived.Deep.QuietTactic
import Derived.BigQuiet
import Derived.Laws.StructEq
import Derived.Laws.BitsAllLaws
import Derived.Laws.BitsLemmas
import Derived.Laws.BytesArg
set_option linter.unusedVariables false
set_option linter.unusedSimpArgs false
set_option maxRecDepth 100000
namespace Go.Proofs.YtgiojagdmglinaaGreatDoor
open Go Go.RowKit
namespace Rg
theorem keeps_below {W W' : World} (h : Below W.heap.size W W') : KeepsOthers W W' := ⟨h.size, fun k o hk _ => (h.block k (Array.getElem?_eq_some_iff.1 hk).1).trans hk⟩
theorem keeps_sets (vs : List Value) : ∀ (W : World) (b o : Nat), KeepsOthers W (W.setCells b o vs) := by
 induction vs with
 | nil => intro W b o; exact KeepsOthers.refl W
 | cons v r ih => intro W b o; exact (KeepsOthers.setCell W ⟨b, o, none⟩ v).trans (ih _ b (o + 1))
theorem keeps_stored {W W' : World} {b o : Nat} {cs : List Value} (s : Kit.Stored W W' b o cs) : KeepsOthers W W' := by
 unfold Kit.Stored at s; subst s; exact keeps_sets cs W b o
section
variable {P : Program}
theorem upon_round {o : Oper} {a : Act} {next : Act → World → Prop} {Q : Exit → Act → World → Prop} (r n : Nat) : ∀ (x : Result Next), o.upon P a next Q x → o.uponIn (Fence.wide.inRound r) n P a next Q x := by
 intro x h
 cases x with
 | ok y w =>
  cases y with
  | value v => exact h
  | skip => exact h
  | defer d => exact h
  | enter f args => exact ⟨fun h0 => by simp [Fence.wide] at h0, CallsIn.inRound r (callsIn_wide.2 h)⟩
  | row row args =>
   refine ⟨fun h0 => by simp [Fence.wide] at h0, fun c cs _ => ?_⟩
   obtain ⟨v, w', hv, hs⟩ := h c cs
   exact ⟨v, w', hv, stepsIn_wide.2 hs⟩
  | round => exact h.elim
  | _ => exact h.elim
 | halt y w => cases y <;> exact h
theorem wp_round {o : Oper} {a : Act} {w : World} {K : Act → World → Prop} {Q : Exit → Act → World → Prop} (r n : Nat) (hd : ∀ c, o.op ≠ .defer c) (h : o.wp P a w K Q) : o.wpIn (Fence.wide.inRound r) n P a w K Q := by
 refine ⟨fun _ _ => trivial, ?_⟩
 show o.uponIn _ n P a K Q ((Oper.semAt (some r) a.eval o).run P w)
 rw [Oper.semAt_some r _ _ hd]
 exact upon_round r n _ h
abbrev Only (K : Act → World → Prop) : Exit → Act → World → Prop := Exit.then K (fun _ _ _ => False)
theorem only_letsOut {K : Act → World → Prop} : ¬ LetsOut (Only K) := fun ⟨_, _, h⟩ => h
theorem only_imp {Q : Exit → Act → World → Prop} : ∀ (e : Exit) (a : Act) (w : World), Only (Q .normal) e a w → Q e a w := fun e a w h => by
 cases e <;> first | exact h | exact (h : False).elim
theorem wpIn_only {F : Fence} {n : Nat} {c : Code} {Q : Exit → Act → World → Prop} {a : Act} {w : World} (h : c.wpIn F n P (Only (Q .normal)) a w) : c.wpIn F n P Q a w := Go.wpIn_mono h only_imp
theorem list_round {ops : Array Oper} {K : Act → World → Prop} (r n : Nat) : ∀ (l : List Oper) (a : Act) (w : World), (∀ o ∈ l, ∀ c, o.op ≠ .defer c) → wpList P ops (Only K) l a w → wpListIn (Fence.wide.inRound r) n P ops (Only K) l a w := by
 intro l
 induction l with
 | nil => intro a w _ h; exact h
 | cons o rest ih =>
  intro a w hd h
  unfold wpList at h
  unfold wpListIn
  split at h
  ·rename_i hw
   rw [if_pos hw]
   rcases h with h | h
   ·exact wp_round r n (hd o (by simp)) (Oper.wp_mono (fun a w h => ih a w (fun o ho => hd o (by simp [ho])) h) h)
   ·exact absurd h.2 only_letsOut
  ·rename_i hw
   rw [if_neg hw]
   exact ⟨fun _ _ => trivial, ih _ _ (fun o ho => hd o (by simp [ho])) h⟩
theorem ops_round {ops : Array Oper} {K : Act → World → Prop} (r n : Nat) (hd : ∀ o ∈ ops.toList, ∀ c, o.op ≠ .defer c) : ∀ (l : List Nat) (a : Act) (w : World), wpOps P ops (Only K) l a w → wpOpsIn (Fence.wide.inRound r) n P ops (Only K) l a w := by
 intro l
 induction l with
 | nil => intro a w h; exact h
 | cons i rest ih =>
  intro a w h
  unfold wpOps at h
  unfold wpOpsIn
  cases hi : ops[i]? with
  | none => simp only [hi] at h ⊢; exact ih _ _ h
  | some o =>
   have ho : o ∈ ops.toList := Array.mem_toList_iff.2 (Array.mem_of_getElem? hi)
   simp only [hi] at h ⊢
   split at h
   ·rename_i hw
    rw [if_pos hw]
    rcases h with h | h
    ·exact wp_round r n (hd o ho) (Oper.wp_mono (fun a w h => ih a w h) h)
    ·exact absurd h.2 only_letsOut
   ·rename_i hw
    rw [if_neg hw]
    exact ⟨fun _ _ => trivial, ih _ _ h⟩
theorem region_round {id : Nat} {l : List Oper} {Q : Exit → Act → World → Prop} {a : Act} {w : World} {r n : Nat} (hd : (l.all fun o => match o.op with | .defer _ => false | _ => true) = true) (h : wpList P l.toArray (Only (Q .normal)) l a w) :
  (Code.region id l.toArray false).wpIn (Fence.wide.inRound r) n P Q a w :=
 wpIn_only (wpIn_region_lit (list_round r n l a w (fun o ho c e => by
  have := List.all_eq_true.1 hd o ho
  rw [e] at this
  cases this) h))
theorem region_round_drew {id : Nat} {ops : Array Oper} {Q : Exit → Act → World → Prop} {S : World → Prop} {a : Act} {w : World} {r n : Nat} (hm : P.follows .mixedOrders = true) (hd : (ops.toList.all fun o => match o.op with | .defer _ => false | _ => true) = true) (hS : S w.drew)
  (h : S w.drew → wpAnyH P .any ops (Only (Q .normal)) S ops.size (Array.replicate ops.size false) a w.drew) : (Code.region id ops true).wpIn (Fence.wide.inRound r) n P Q a w :=
 wpIn_only (wpIn_region_draw fun t => by
  simp only [Region.schedule, hm, Bool.true_or, if_true]
  exact ops_round r n (fun o ho c e => by
   have := List.all_eq_true.1 hd o ho
   rw [e] at this
   cases this) _ _ _ (wpAny_sound ops.size t _ a _ (wpAny_of_held _ _ _ _ (h hS))))
def bodyP (M' : World → Prop) (W : World) : Exit → Act → World → Prop
 | .normal, _, W' => KeepsOthers W W' ∧ M' W'
 | _, _, _ => False
theorem wp_range {α : Type} {g : Operand} {ps : Array Tmp} {assign body : Code} {Q : Exit → Act → World → Prop} {a : Act} {w : World} {gf : Nat} {lb : Array Value}
  (hg : a.eval g = .func (.func gf) #[] lb) (eg : ∀ args w, (callFunc gf args).run P w = .ok (.enter gf args) w) (V : α → Prop) (encs : α → Array Value) (hps : ∀ k, (encs k).size = ps.size)
  (M M' : α → World → Prop) (E : World → Prop) (A : α → Act → World → Prop)
  (hM : ∀ k W l o o', w.heap.size ≤ l → W.heap[l]? = some o → o.isCells = false → M k W → M k (W.putObj l o'))
  (hM' : ∀ k W l o o', w.heap.size ≤ l → W.heap[l]? = some o → o.isCells = false → M' k W → M' k (W.putObj l o'))
  (hE : ∀ W l o o', w.heap.size ≤ l → W.heap[l]? = some o → o.isCells = false → E W → E (W.putObj l o'))
  (hA : ∀ k a₁ W l o o', w.heap.size ≤ l → W.heap[l]? = some o → o.isCells = false → A k a₁ W → A k a₁ (W.putObj l o'))
  (hiter : ∀ (l : Nat) (Bk : World → Prop), (∀ W W', Bk W → KeepsOthers W W' → Bk W') →
   (∀ k W, V k → M k W → Bk W → YieldAt Fence.wide 8 P l (encs k) W fun e W' => e = .returned (.bool true) ∧ M' k W' ∧ Bk W') →
   ∀ W, Below w.heap.size w W → Bk W → Calls P gf (#[.func (.yield l) #[] #[]] ++ lb) W fun e W' => (∃ v, e = .returned v) ∧ E W' ∧ Bk W')
  (hassign : ∀ (l : Nat) (k : α) (W : World), V k → M k W → assign.wpIn (Fence.wide.inRound l) 8 P (Only fun a₁ W1 => KeepsOthers W W1 ∧ A k a₁ W1) { tmps := (ps.zip (encs k)).foldl (fun t (p, v) => t.setIfInBounds p v) a.tmps, defers := [] } W)
  (hbody : ∀ (l : Nat) (k : α) (a₁ : Act) (W : World), V k → A k a₁ W → body.wpIn (Fence.wide.inRound l) 8 P (bodyP (M' k) W) a₁ W)
  (hdone : ∀ (D : Nat) (W : World), w.heap.size ≤ D → E W → W.heap[D]? = some (.deferred (some [])) → Q .normal { a with defers := { target := .collected D, args := #[] } :: a.defers } W) :
  (Code.rangeFunc g ps assign body).wpIn Fence.wide 10 P Q a w := by
 refine wpIn_rangeFunc ?_
 intro fn hfn
 rw [Fence.wide_round]
 obtain ⟨rec, hrec⟩ : ∃ rec : LoopState → Option Code → Loop, rec = fun st pe => { state := st, pending := pe, fn, tmps := a.tmps, params := ps, assign, body, defers := w.heap.size } := ⟨_, rfl⟩
 obtain ⟨W1, hW1⟩ : ∃ W1, (w.alloc (.deferred (some []))).alloc (.loop (rec .ready none)) = W1 := ⟨_, rfl⟩
 have hL1 : W1.heap[w.heap.size + 1]? = some (.loop (rec .ready none)) := by
  rw [← hW1]; have := World.alloc_heap_new (w.alloc (.deferred (some []))) (.loop (rec .ready none)); rwa [World.size_alloc] at this
 have hK1 : W1.heap[w.heap.size]? = some (.deferred (some [])) := by
  rw [← hW1]; exact (Below.heap_alloc _ _ _ (by simp)).trans (World.alloc_heap_new w _)
 have hb1 : Below w.heap.size w W1 := by
  rw [← hW1]; exact ((Below.refl _ w).alloc (Nat.le_refl _) _).alloc (by simp) _
 refine ⟨w.heap.size + 1, [{ target := .collected w.heap.size, args := #[] }], W1, { target := .fn (.func gf) lb, args := #[.func (.yield (w.heap.size + 1)) #[] #[]] }, W1, gf,
  #[.func (.yield (w.heap.size + 1)) #[] #[]] ++ lb, W1, ?_, ?_, ?_, ?_, fun _ => by omega, ?_⟩
 ·rw [← hW1, hrec]; exact run_enterLoop_outer _ _ _ _ _
 ·simp only [resolve, hg]
  simp [go_sem]
 ·intro f' _; trivial
 ·simp [invoke, go_sem, eg]
 ·refine CallsIn.mono (callsIn_wide.2 (hiter (w.heap.size + 1) (fun W => W.heap[w.heap.size + 1]? = some (.loop (rec .ready none)) ∧ W.heap[w.heap.size]? = some (.deferred (some [])))
   (fun W W' h hk => ⟨hk.same _ _ h.1 rfl, hk.same _ _ h.2 rfl⟩) ?_ W1 hb1 ⟨hL1, hK1⟩)) ?_
  ·rintro k W hkN hm ⟨hl, hk⟩
   have hlt : w.heap.size + 1 < W.heap.size := (Array.getElem?_eq_some_iff.1 hl).1
   have hy := run_yield (P := P) (args := encs k) hl (by rw [hrec]; exact hps k)
   rw [hrec] at hy
   refine ⟨fn, _, assign, body, hy, roundIn_of_wpIn hfn (Go.wpIn_mono (hassign _ k W hkN hm) ?_)⟩
   rintro e a1 W2 he
   cases e with
   | normal =>
    obtain ⟨hk2, hA2⟩ := he
    have hl2 := hk2.same _ _ hl rfl
    have hd2 := hk2.same _ _ hk rfl
    have hlt2 : w.heap.size + 1 < W2.heap.size := (Array.getElem?_eq_some_iff.1 hl2).1
    refine ⟨_, run_beginRound hl2 (by rw [hrec]), ?_⟩
    have hl3 : (W2.putObj (w.heap.size + 1) (.loop { rec .ready none with state := .busy })).heap[w.heap.size + 1]? = some (.loop { rec .ready none with state := .busy }) := World.putObj_heap_same hlt2
    have hd3 : (W2.putObj (w.heap.size + 1) (.loop { rec .ready none with state := .busy })).heap[w.heap.size]? = some (.deferred (some [])) := (World.putObj_heap_other (by omega)).trans hd2
    refine Go.wpIn_mono (hbody _ k a1 _ hkN (hA _ _ _ _ _ _ (by omega) hl2 rfl hA2)) ?_
    rintro e a3 W3 hp
    cases e with
    | normal =>
     obtain ⟨hk4, hm4⟩ := hp
     have hl4 := hk4.same _ _ hl3 rfl
     have hd4 := hk4.same _ _ hd3 rfl
     have hend := run_endRound (P := P) none hl4
     refine ⟨_, _, hend, rfl, hM' _ _ _ _ _ (by omega) hl4 rfl hm4, ?_, ?_⟩
     ·have := World.putObj_heap_same (w := W3) (o := .loop { ({ rec .ready none with state := .busy } : Loop) with state := if (none : Option Code).isNone then .ready else .done, pending := none }) (Array.getElem?_eq_some_iff.1 hl4).1
      rw [this, hrec]
      rfl
     ·exact (World.putObj_heap_other (by omega)).trans hd4
    | ret => exact hp.elim
    | exit id => exact hp.elim
    | goto t => exact hp.elim
    | panic ch => exact hp.elim
    | outgrown => exact hp.elim
   | ret => exact he.elim
   | exit id => exact he.elim
   | goto t => exact he.elim
   | panic ch => exact he.elim
   | outgrown => exact he.elim
  ·rintro e W2 ⟨⟨v, rfl⟩, hE2, hl, hk⟩
   exact ⟨none, _, by have := run_endLoop (P := P) hl (by rw [hrec]; simp); rw [hrec] at this; exact this, hdone _ _ (Nat.le_refl _) (hE _ _ _ _ (by omega) hl rfl hE2) ((World.putObj_heap_other (by omega)).trans hk)⟩
end
end Rg
end Go.Proofs.YtgiojagdmglinaaGreatDoor
namespace Go.Proofs.YtgiojagdmglinaaGreatDoor
open Go.RowKit
structure Nd where
 id : Int
 md : Int
 ct : Int
 ps : Int
def Nd.zero : Nd := ⟨0, 0, 0, 0⟩
instance : Inhabited Nd := ⟨Nd.zero⟩
def Nd.cells (x : Nd) : List Value := [.int .i64 x.id, .int .i64 x.md, .int .i64 x.ct, .int .i64 x.ps]
def Nd.fits (x : Nd) : Prop := -9223372036854775808 ≤ x.ps ∧ x.ps ≤ 9223372036854775807 ∧ -9223372036854775808 ≤ x.md ∧ x.md ≤ 9223372036854775807
structure Lies (w : World) (A : Option Addr) (n k : Nat) (cs : List (List Value)) : Prop where
 len : cs.length = n
 at_ : 0 < n → ∃ b off, A = some ⟨b, off, none⟩ ∧ b < w.heap.size ∧ ∀ j c, cs[j]? = some c → ∀ i v, c[i]? = some v → w.cell? ⟨b, off + j * k + i, none⟩ = some v
theorem Lies.below {w W : World} {A : Option Addr} {n k : Nat} {cs : List (List Value)} (h : Lies w A n k cs) (hb : Below w.heap.size w W) : Lies W A n k cs where
 len := h.len
 at_ := fun hn => by
  obtain ⟨b, off, e, hlt, hc⟩ := h.at_ hn
  exact ⟨b, off, e, Nat.lt_of_lt_of_le hlt hb.size, fun j c hj i v hi => (hb.cell (p := ⟨b, off + j * k + i, none⟩) hlt).trans (hc j c hj i v hi)⟩
theorem flat_get (k : Nat) : ∀ (ll : List (List Value)), (∀ c ∈ ll, c.length = k) → ∀ (j : Nat) (c : List Value), ll[j]? = some c → ∀ (i : Nat) (v : Value), c[i]? = some v → ll.flatten[j * k + i]? = some v
 | [], _, j, c, h, _, _, _ => by simp at h
 | c0 :: ll, hk, 0, c, h, i, v, hv => by
  simp only [List.getElem?_cons_zero, Option.some.injEq] at h
  subst h
  have hi := (List.getElem?_eq_some_iff.1 hv).1
  rw [List.flatten_cons, Nat.zero_mul, Nat.zero_add, List.getElem?_append_left hi]
  exact hv
 | c0 :: ll, hk, j + 1, c, h, i, v, hv => by
  simp only [List.getElem?_cons_succ] at h
  have h0 : c0.length = k := hk c0 (by simp)
  rw [List.flatten_cons, List.getElem?_append_right (by rw [h0, Nat.succ_mul]; omega), h0, show (j + 1) * k + i - k = j * k + i by rw [Nat.succ_mul]; omega]
  exact flat_get k ll (fun c hc => hk c (by simp [hc])) j c h i v hv
theorem Lies.built (w : World) (cs : Array Value) (e : TypeId) (k n : Nat) (ll : List (List Value)) (hc : cs.toList = ll.flatten) (hk : ∀ c ∈ ll, c.length = k) (hn : ll.length = n) :
  Lies (w.alloc (.cells cs e)) (some ⟨w.heap.size, 0, none⟩) n k ll where
 len := hn
 at_ := fun _ => ⟨w.heap.size, 0, rfl, by simp, fun j c hj i v hv => by
  rw [Nat.zero_add, World.cell?_alloc_new]
  have h1 : cs[j * k + i]? = cs.toList[j * k + i]? := by simp
  rw [h1, hc]
  exact flat_get k ll hk j c hj i v hv⟩
def Nodes (w : World) (A : Option Addr) (n : Nat) (l : List Nd) : Prop := Lies w A n 4 (l.map Nd.cells)
theorem Nodes.below {w W : World} {A : Option Addr} {n : Nat} {l : List Nd} (h : Nodes w A n l) (hb : Below w.heap.size w W) : Nodes W A n l := Lies.below h hb
theorem Nodes.len {w : World} {A : Option Addr} {n : Nat} {l : List Nd} (h : Nodes w A n l) : l.length = n := by have := Lies.len h; simpa using this
theorem Nodes.row {w : World} {A : Option Addr} {n : Nat} {l : List Nd} (h : Nodes w A n l) (hn : 0 < n) : ∃ b off, A = some ⟨b, off, none⟩ ∧ b < w.heap.size ∧
  ∀ j x, l[j]? = some x → w.cell? ⟨b, off + j * 4, none⟩ = some (.int .i64 x.id) ∧ w.cell? ⟨b, off + j * 4 + 1, none⟩ = some (.int .i64 x.md) ∧ w.cell? ⟨b, off + j * 4 + 2, none⟩ = some (.int .i64 x.ct) ∧ w.cell? ⟨b, off + j * 4 + 3, none⟩ = some (.int .i64 x.ps) := by
 obtain ⟨b, off, e, hlt, hc⟩ := Lies.at_ h hn
 refine ⟨b, off, e, hlt, fun j x hj => ?_⟩
 have hj' : (l.map Nd.cells)[j]? = some x.cells := by rw [List.getElem?_map, hj]; rfl
 exact ⟨hc j _ hj' 0 _ rfl, hc j _ hj' 1 _ rfl, hc j _ hj' 2 _ rfl, hc j _ hj' 3 _ rfl⟩
namespace Vw
def fnode (c v : Int) (i : Nat) : Bool := c == 1 && v == (i : Int)
def places (c v : Int) (so : Nat → Nd → Bool) (l : List Nd) (k : Nat) : List Nat := (List.range k).filter fun i => !fnode c v i && so i (l.getD i Nd.zero)
theorem places_succ (c v : Int) (so : Nat → Nd → Bool) (l : List Nd) (k : Nat) :
  places c v so l (k + 1) = places c v so l k ++ if (!fnode c v k && so k (l.getD k Nd.zero)) = true then [k] else [] := by
 unfold places
 rw [List.range_succ, List.filter_append]
 congr 1
 by_cases h : (!fnode c v k && so k (l.getD k Nd.zero)) = true
 ·rw [if_pos h]; exact List.filter_cons_of_pos (p := fun i => !fnode c v i && so i (l.getD i Nd.zero)) h
 ·rw [if_neg h]; exact List.filter_cons_of_neg (p := fun i => !fnode c v i && so i (l.getD i Nd.zero)) h
theorem places_len (c v : Int) (so : Nat → Nd → Bool) (l : List Nd) (k : Nat) : (places c v so l k).length ≤ k := by
 have := List.length_filter_le (fun i => !fnode c v i && so i (l.getD i Nd.zero)) (List.range k)
 simpa [places] using this
structure Ints (w : World) (A : Option Addr) (n : Nat) (l : List Nat) : Prop where
 len : l.length = n
 at_ : 0 < n → ∃ b off, A = some ⟨b, off, none⟩ ∧ b < w.heap.size ∧ ∀ (j x : Nat), l[j]? = some x → w.cell? ⟨b, off + j, none⟩ = some (.int .i64 (x : Int))
theorem Ints.below {w W : World} {A : Option Addr} {n : Nat} {l : List Nat} (h : Ints w A n l) (hb : Below w.heap.size w W) : Ints W A n l where
 len := h.len
 at_ := fun hn => by
  obtain ⟨b, off, e, hlt, hc⟩ := h.at_ hn
  exact ⟨b, off, e, Nat.lt_of_lt_of_le hlt hb.size, fun j x hj => (hb.cell (p := ⟨b, off + j, none⟩) hlt).trans (hc j x hj)⟩
def idx {α : Type} (p : α → Bool) (l : List α) : Int := match l.findIdx? p with | some i => (i : Int) | none => -1
theorem idx_hit {α : Type} (p : α → Bool) (l : List α) (k : Nat) (x : α) (hx : l[k]? = some x) (hp : p x = true) (h : ∀ (j : Nat) (y : α), j < k → l[j]? = some y → p y = false) : idx p l = (k : Int) := by
 have : l.findIdx? p = some k := by
  rw [List.findIdx?_eq_some_iff_getElem]
  obtain ⟨hk, he⟩ := List.getElem?_eq_some_iff.1 hx
  refine ⟨hk, by rw [he]; exact hp, fun j hj => ?_⟩
  rw [h j _ hj (List.getElem?_eq_getElem (by omega))]
  simp
 unfold idx
 rw [this]
theorem idx_miss {α : Type} (p : α → Bool) (l : List α) (h : ∀ (j : Nat) (y : α), l[j]? = some y → p y = false) : idx p l = -1 := by
 have : l.findIdx? p = none := by
  rw [List.findIdx?_eq_none_iff]
  intro x hx
  obtain ⟨j, hj⟩ := List.mem_iff_getElem?.1 hx
  exact h j x hj
 unfold idx
 rw [this]
theorem idx_any {α : Type} (p : α → Bool) (l : List α) : decide (0 ≤ idx p l) = l.any p := by
 unfold idx
 cases h : l.findIdx? p with
 | none =>
  rw [List.findIdx?_eq_none_iff] at h
  have : l.any p = false := by rw [List.any_eq_false]; intro x hx; rw [h x hx]; simp
  rw [this]; decide
 | some i =>
  have : l.any p = true := by
   rw [List.findIdx?_eq_some_iff_getElem] at h
   obtain ⟨hi, hp, _⟩ := h
   rw [List.any_eq_true]
   exact ⟨_, List.getElem_mem hi, hp⟩
  rw [this]
  simp
def act (_ : Nat) (x : Nd) : Bool := x.md == 3
def active (c v : Int) (l : List Nd) : List Nat := places c v act l l.length
def psAt (l : List Nd) (i : Nat) : Int := (l.getD i Nd.zero).ps
def slot (c v : Int) (l : List Nd) : Option Int :=
 match active c v l with
 | [] => none
 | p :: r => if (p :: r).any (fun i => psAt l i != psAt l p) then none else some (psAt l p)
def all (c v : Int) (l : List Nd) : Bool := (places c v (fun i x => !act i x) l l.length).length == 0
def changed (c v : Int) (l m : List Nd) : List Nat := places c v (fun i x => act i x && (decide (m.length ≤ i) || !act i (m.getD i Nd.zero))) l l.length
theorem mem_places {c v : Int} {so : Nat → Nd → Bool} {l : List Nd} {k i : Nat} (h : i ∈ places c v so l k) : i < k := by
 unfold places at h
 have := (List.mem_filter.1 h).1
 simpa using this
def ints (l : List Nat) : List Value := l.map fun (i : Nat) => Value.int .i64 (i : Int)
theorem Ints.of_own {w : World} {base : Nat} {e : TypeId} {v : Value} {l : List Nat} (h : w.ownsRow base e 1 v l.length (ints l)) : ∃ A c, v = .slice A l.length c ∧ Ints w A l.length l := by
 rcases Nat.eq_zero_or_pos l.length with h0 | h0
 ·rcases h.2 with ⟨rfl, hn⟩ | ⟨g, cap, cur, rfl, _⟩
  ·exact ⟨none, 0, by rw [hn], rfl, fun hp => absurd hp (by omega)⟩
  ·exact ⟨_, cap, rfl, rfl, fun hp => absurd hp (by omega)⟩
 ·obtain ⟨g, cap, rfl, _, hg⟩ := h.form h0
  refine ⟨_, cap, rfl, rfl, fun _ => ⟨g, 0, rfl, ?_, fun j x hj => ?_⟩⟩
  ·have hc := h.cells (g := g) rfl 0 (.int .i64 ((l.getD 0 0 : Nat) : Int)) (by
    unfold ints
    rw [List.getElem?_map, List.getElem?_eq_getElem h0, List.getD_eq_getElem?_getD, List.getElem?_eq_getElem h0]
    rfl)
   exact World.block_lt_of_cell? w _ hc
  ·have hc := h.cells (g := g) rfl j (.int .i64 (x : Int)) (by unfold ints; rw [List.getElem?_map, hj]; rfl)
   rw [Nat.zero_add]
   have ha : (⟨g, 0, none⟩ : Addr).add j = ⟨g, 0 + j, none⟩ := by unfold Addr.add; split <;> simp_all
   rw [ha, Nat.zero_add] at hc
   exact hc
end Vw
end Go.Proofs.YtgiojagdmglinaaGreatDoor
namespace Go.Proofs.YtgiojagdmglinaaGreatDoor
open Go.RowKit
set_option maxHeartbeats 400000 in
theorem Vw.fnode_calls (c v i : Int) (w : World) :
  Calls Tryz.prog 92 #[.agg #[.int .i64 c, .int .i64 v], .int .i64 i] w fun e w' => e = .returned (.bool (c == 1 && v == i)) ∧ Below w.heap.size w w' := by
 go_enter Tryz.func92, Tryz.ntmps92
 go_wp2_with fail
 all_goals (go_ret; exact ⟨by simp_all, (Below.refl _ _).alloc (Nat.le_refl _) _⟩)
set_option maxHeartbeats 400000 in
theorem Vw.active_calls (i a m c p : Int) (w : World) :
  Calls Tryz.prog 80 #[.int .i64 i, .agg #[.int .i64 a, .int .i64 m, .int .i64 c, .int .i64 p]] w fun e w' => e = .returned (.bool (m == 3)) ∧ Below w.heap.size w w' := by
 go_enter Tryz.func80, Tryz.ntmps80
 go_wp2_with fail
 go_ret
 exact ⟨rfl, (Below.refl _ _).alloc (Nat.le_refl _) _⟩
set_option maxHeartbeats 400000 in
theorem Vw.allone_calls (i a m c p : Int) (w : World) :
  Calls Tryz.prog 79 #[.int .i64 i, .agg #[.int .i64 a, .int .i64 m, .int .i64 c, .int .i64 p]] w fun e w' => e = .returned (.bool (!(m == 3))) ∧ Below w.heap.size w w' := by
 go_enter Tryz.func79, Tryz.ntmps79
 go_wp2_with fail
 refine (Vw.active_calls _ _ _ _ _ _).mono ?_
 rintro e w1 ⟨rfl, h1⟩
 go_wp2_with fail
 go_ret
 exact ⟨rfl, Kit.chain ((Below.refl _ _).alloc (Nat.le_refl _) _) h1⟩
theorem Vw.infoInt : (Tryz.prog.info? 3).map (fun i => (i.zero, i.size, i.bytes)) = some (some (.int .i64 0), 1, 8) := by kernel_rfl
def Vw.So (g : Nat) (lb : Array Value) (so : Nat → Nd → Bool) (l : List Nd) (w : World) : Prop :=
 ∀ (W : World) (i : Nat) (x : Nd), Below w.heap.size w W → l[i]? = some x → Calls Tryz.prog g (#[.int .i64 (i : Int), .agg #[.int .i64 x.id, .int .i64 x.md, .int .i64 x.ct, .int .i64 x.ps]] ++ lb) W
  fun e w' => e = .returned (.bool (so i x)) ∧ Below W.heap.size W w'
def Vw.Row (w : World) (pl : List Nat) (e : Ending) (w' : World) : Prop :=
 ∃ v, e = .returned v ∧ w'.ownsRow w.heap.size 3 1 v pl.length (Vw.ints pl) ∧ Below w.heap.size w w'
set_option maxHeartbeats 1000000 in
theorem Vw.places_calls (c v : Int) (A : Option Addr) (n cap : Nat) (l : List Nd) (g : Nat) (lb : Array Value) (so : Nat → Nd → Bool) (w : World) (hl : Nodes w A n l) (hn : n ≤ 1000000)
  (eg : ∀ args w, (callFunc g args).run Tryz.prog w = .ok (.enter g args) w) (hso : Vw.So g lb so l w) :
  Calls Tryz.prog 78 #[.agg #[.int .i64 c, .int .i64 v], .slice A n cap, .func (.func g) #[] lb] w (Vw.Row w (Vw.places c v so l n)) := by
 obtain ⟨i0, hi, hz0, hz1, hz2⟩ := info_parts Vw.infoInt
 have HL := Lib.hid hl
 have HSo : Hid (Vw.So g lb so l w) := Lib.hid hso
 clear hl hso
 go_enter Tryz.func78, Tryz.ntmps78
 go_wp2_with fail
 go_loopw [7, 8, 9, 12] (fun vo _ _ vi wr => ∃ k : Nat, k ≤ n ∧ vi = .int .i64 k ∧ wr.ownsRow (w.heap.size + 1) 3 1 vo (Vw.places c v so l k).length (Vw.ints (Vw.places c v so l k)) ∧ wr.cell? ⟨w.heap.size, 0, none⟩ = some (.int .i64 c) ∧ wr.cell? ⟨w.heap.size, 1, none⟩ = some (.int .i64 v) ∧ Hid (Below w.heap.size w wr))
  (fun _ _ _ vi _ => n - (intOf vi).toNat)
 case atStart => exact ⟨0, by omega, rfl, World.ownsRow_nil _ _ _ _, by go_simp, by go_simp, Lib.hid ((Below.refl _ _).alloc (Nat.le_refl _) _)⟩
 case round =>
  obtain ⟨k, hk, rfl, hown, hc0, hc1, HB⟩ := hrel
  by_cases hlt : k < n
  ·obtain ⟨b, off, rfl, hb, hrow⟩ := HL.out.row (by omega)
   have hkl : k < l.length := by rw [HL.out.len]; exact hlt
   obtain ⟨x, hx⟩ : ∃ x, l[k]? = some x := ⟨_, List.getElem?_eq_getElem hkl⟩
   have hxd : l.getD k Nd.zero = x := by rw [List.getD_eq_getElem?_getD, hx]; rfl
   obtain ⟨r0, r1, r2, r3⟩ := hrow k x hx
   have m0 := (HB.out.cell (p := ⟨b, off + k * 4, none⟩) hb).trans r0
   have m1 := (HB.out.cell (p := ⟨b, off + k * 4 + 1, none⟩) hb).trans r1
   have m2 := (HB.out.cell (p := ⟨b, off + k * 4 + 2, none⟩) hb).trans r2
   have m3 := (HB.out.cell (p := ⟨b, off + k * 4 + 3, none⟩) hb).trans r3
   have hws : w.heap.size < wr.heap.size := World.block_lt_of_cell? wr ⟨w.heap.size, 0, none⟩ hc0
   have hsucc := Vw.places_succ c v so l k
   rw [hxd] at hsucc
   have hplen := Vw.places_len c v so l k
   have HX := Lib.hid hx
   have cf : ∀ W, Calls Tryz.prog 92 #[.agg #[.int .i64 c, .int .i64 v], .int .i64 (k : Int)] W fun e w' => e = .returned (.bool (Vw.fnode c v k)) ∧ Below W.heap.size W w' := fun W => Vw.fnode_calls c v k W
   clear r0 r1 r2 r3 hrow hxd hx
   cases hq : Vw.fnode c v k with
   | true =>
    rw [hq] at cf hsucc
    have hs : Vw.places c v so l (k + 1) = Vw.places c v so l k := by rw [hsucc]; simp
    have HS := Lib.hid hs
    clear hs hsucc hq
    go_wp2_with fail
    refine (cf _).mono ?_
    rintro e w1 ⟨rfl, b1⟩
    have ba : Below wr.heap.size wr w1 := Kit.chain ((Below.refl _ _).alloc (Nat.le_refl _) _) b1
    clear b1
    go_wp2_with fail
    go_roundw
    case rel => exact ⟨k + 1, by omega, by go_num, by rw [HS.out]; exact Kit.own_below hown ba, Kit.cell_below ba hc0, Kit.cell_below ba hc1, Lib.hid (HB.out.trans (ba.mono HB.out.size))⟩
    case measure => simp [intOf]; omega
   | false =>
    rw [hq] at cf hsucc
    have cs : ∀ W, Below w.heap.size w W → _ := fun W hW => HSo.out W k x hW HX.out
    cases hs0 : so k x with
    | false =>
     rw [hs0] at cs hsucc
     have hs : Vw.places c v so l (k + 1) = Vw.places c v so l k := by rw [hsucc]; simp
     have HS := Lib.hid hs
     clear hs hsucc hq hs0
     go_wp2_with fail
     refine (cf _).mono ?_
     rintro e w1 ⟨rfl, b1⟩
     have ba : Below wr.heap.size wr w1 := Kit.chain ((Below.refl _ _).alloc (Nat.le_refl _) _) b1
     have bw : Below w.heap.size w w1 := HB.out.trans (ba.mono HB.out.size)
     obtain ⟨hcc, hff⟩ := Kit.bcell b1
     have BA := Lib.hid ba
     have cs1 := cs w1 bw
     clear b1 ba bw cs
     go_wp2_with fail
     refine cs1.mono ?_
     rintro e w2 ⟨rfl, b2⟩
     have BB := Lib.hid (Kit.chain BA.out b2)
     clear b2
     go_wp2_with fail
     go_roundw
     case rel => exact ⟨k + 1, by omega, by go_num, by rw [HS.out]; exact Kit.own_below hown BB.out, Kit.cell_below BB.out hc0, Kit.cell_below BB.out hc1, Lib.hid (HB.out.trans (BB.out.mono HB.out.size))⟩
     case measure => simp [intOf]; omega
    | true =>
     rw [hs0] at cs hsucc
     have hs : Vw.places c v so l (k + 1) = Vw.places c v so l k ++ [k] := by rw [hsucc]; simp
     have HS := Lib.hid hs
     clear hs hsucc hq hs0
     go_wp2_with fail
     refine (cf _).mono ?_
     rintro e w1 ⟨rfl, b1⟩
     have ba : Below wr.heap.size wr w1 := Kit.chain ((Below.refl _ _).alloc (Nat.le_refl _) _) b1
     have bw : Below w.heap.size w w1 := HB.out.trans (ba.mono HB.out.size)
     obtain ⟨hcc, hff⟩ := Kit.bcell b1
     have BA := Lib.hid ba
     have cs1 := cs w1 bw
     clear b1 ba bw cs
     go_wp2_with fail
     refine cs1.mono ?_
     rintro e w2 ⟨rfl, b2⟩
     have BB := Lib.hid (Kit.chain BA.out b2)
     have hown2 := Kit.own_below hown BB.out
     have hsz2 := (HB.out.trans (BB.out.mono HB.out.size)).size
     have hsz3 : w.heap.size < w2.heap.size := Nat.lt_of_lt_of_le hws BB.out.size
     clear b2 hcc hff
     go_wp2_with (at_builtin; refine wpList_append_own _ rfl _ _ 22 rfl (w.heap.size + 1) 3 i0 (.int .i64 0) 1 8 Tryz.underlying22 hi hz0 hz1 hz2 rfl (by decide) _ _ _ rfl (hown2.alloc _) ⟨w2.heap.size, 0, none⟩ 1 1 [.int .i64 (k : Int)] rfl rfl ?c1 ?c2 ?c3 ?c4 ?c5 ?_)
     case c1 => exact cell_one_new _ _ _
     case c2 => intro u hu; simp at hu; subst hu; rfl
     case c3 => unfold maxLen; omega
     case c4 => omega
     case c5 => simp; omega
     ·intro v' w3 hown' hgrow _
      have hb7 := Kit.own_base hown2
      have bw2 := HB.out.trans (BB.out.mono HB.out.size)
      have b3 : Below w.heap.size w w3 := (bw2.alloc bw2.size _).grown hgrow (by have := bw2.size; simp; omega) (fun q hq => by have := hb7 q hq; omega)
      have d0 := Kit.grown_cell hgrow (b := w.heap.size) (o := 0) (v := .int .i64 c) (fun q hq => by have := hb7 q hq; omega) (by rw [World.cell?_alloc_past _ _ _ hsz3]; exact Kit.cell_below BB.out hc0)
      have d1 := Kit.grown_cell hgrow (b := w.heap.size) (o := 1) (v := .int .i64 v) (fun q hq => by have := hb7 q hq; omega) (by rw [World.cell?_alloc_past _ _ _ hsz3]; exact Kit.cell_below BB.out hc1)
      have B3 := Lib.hid b3
      clear b3 hown2 hgrow bw2 hb7
      go_wp2
      go_roundw
      case rel => exact ⟨k + 1, by omega, by go_num, by rw [HS.out, List.length_append]; unfold Vw.ints; rw [List.map_append]; exact hown', d0, d1, B3⟩
      case measure => simp [intOf]; omega
  ·obtain rfl : k = n := by omega
   go_wp2_with fail
   go_ret
   exact ⟨_, rfl, Kit.own_weaken hown (by omega), HB.out⟩
end Go.Proofs.YtgiojagdmglinaaGreatDoor
namespace Go.Proofs.YtgiojagdmglinaaGreatDoor
namespace Crc
def st (r : Nat) : Nat := if r % 2 = 1 then (r / 2) ^^^ 3988292384 else r / 2
def it : Nat → Nat → Nat
 | 0, r => r
 | k + 1, r => it k (st r)
theorem it_succ' (k r : Nat) : it (k + 1) r = st (it k r) := by
 induction k generalizing r with
 | zero => rfl
 | succ k ih => rw [it, ih]; rfl
theorem st_lt {r : Nat} (h : r < 4294967296) : st r < 4294967296 := by
 unfold st
 split
 ·exact Nat.xor_lt_two_pow (n := 32) (by omega) (by omega)
 ·omega
theorem it_lt (k : Nat) {r : Nat} (h : r < 4294967296) : it k r < 4294967296 := by
 induction k generalizing r with
 | zero => exact h
 | succ k ih => exact ih (st_lt h)
def add (r b : Nat) : Nat := it 8 (r ^^^ b)
theorem xor_lt {r b : Nat} (h : r < 4294967296) (hb : b < 4294967296) : r ^^^ b < 4294967296 := Nat.xor_lt_two_pow (n := 32) h hb
theorem add_lt {r b : Nat} (h : r < 4294967296) (hb : b < 256) : add r b < 4294967296 := it_lt 8 (xor_lt h (by omega))
def from_ (r : Nat) (l : List UInt8) : Nat := l.foldl (fun r b => add r b.toNat) r
theorem from_lt {r : Nat} (h : r < 4294967296) (l : List UInt8) : from_ r l < 4294967296 := by
 induction l generalizing r with
 | nil => exact h
 | cons b l ih => exact ih (add_lt h b.toNat_lt)
theorem from_snoc (r : Nat) (l : List UInt8) (b : UInt8) : from_ r (l ++ [b]) = add (from_ r l) b.toNat := by simp [from_]
theorem from_append (r : Nat) (l m : List UInt8) : from_ r (l ++ m) = from_ (from_ r l) m := by simp [from_]
def init : Nat := 4294967295
theorem init_eq : init = 4294967295 := rfl
theorem init_lt : init < 4294967296 := by unfold init; omega
def sum (l : List UInt8) : Nat := init - from_ init l
theorem sum_lt (l : List UInt8) : sum l < 4294967296 := by unfold sum init; omega
theorem from_le (l : List UInt8) : from_ init l ≤ 4294967295 := by have := from_lt init_lt l; omega
theorem sum_back (l : List UInt8) : init - sum l = from_ init l := by have := from_le l; unfold sum; have := init_eq; omega
theorem sum_int (l : List UInt8) : (4294967295 : Int) - (from_ init l : Nat) = ((sum l : Nat) : Int) := by have := from_le l; unfold sum; have := init_eq; omega
theorem st_go (r : Nat) (h : r < 4294967296) : Go.bits .xor .u32 ((r : Int) / 2) (Go.bits .and .u32 3988292384 ((-(Go.bits .and .u32 (r : Int) 1)) % 4294967296)) = (st r : Int) := by
 have h1 : Go.bits .and .u32 (r : Int) 1 = ((r % 2 : Nat) : Int) := by
  have := u32_and_nat r 1 h (by omega)
  rw [show ((1 : Nat) : Int) = 1 from rfl, Nat.and_one_is_mod] at this
  exact this
 rw [h1]
 unfold st
 by_cases e : r % 2 = 1
 ·rw [if_pos e, e]
  have h2 : Go.bits .and .u32 3988292384 ((-((1 : Nat) : Int)) % 4294967296) = ((3988292384 : Nat) : Int) := by decide +kernel
  rw [h2]
  have := u32_xor_nat (r / 2) 3988292384 (by omega) (by omega)
  rw [← this]
  congr 1
 ·rw [if_neg e, show r % 2 = 0 from by omega]
  have h2 : Go.bits .and .u32 3988292384 ((-((0 : Nat) : Int)) % 4294967296) = ((0 : Nat) : Int) := by decide +kernel
  rw [h2]
  have := u32_xor_nat (r / 2) 0 (by omega) (by omega)
  rw [Nat.xor_zero] at this
  rw [← this]
  congr 1
theorem xor_go (r b : Nat) (h : r < 4294967296) (hb : b < 256) : Go.bits .xor .u32 (r : Int) (b : Int) = ((r ^^^ b : Nat) : Int) := u32_xor_nat r b h (by omega)
theorem not_go (r : Nat) (h : r < 4294967296) : Go.bits .xor .u32 IntKind.u32.max (r : Int) = 4294967295 - (r : Int) := by
 have h1 : IntKind.u32.max = ((4294967295 : Nat) : Int) := by decide +kernel
 rw [h1, u32_xor_nat _ r (by omega) h]
 have h2 : (4294967295 ^^^ r : Nat) = 4294967295 - r := by
  have := congrArg BitVec.toNat (BitVec.allOnes_xor (x := BitVec.ofNat 32 r))
  simp only [BitVec.toNat_xor, BitVec.toNat_allOnes, BitVec.toNat_not, BitVec.toNat_ofNat] at this
  rw [Nat.mod_eq_of_lt (show r < 2 ^ 32 from h)] at this
  exact this
 rw [h2]
 omega
def four (n : Nat) : ByteArray := Go.strOfNums [(n : Int) / 16777216, (n : Int) / 65536 % 256, (n : Int) / 256 % 256, (n : Int) % 256]
def val (s : List UInt8) : Nat := ((s.getD 0 0).toNat * 256 + (s.getD 1 0).toNat) * 65536 + (s.getD 2 0).toNat * 256 + (s.getD 3 0).toNat
theorem val_lt (s : List UInt8) : val s < 4294967296 := by
 unfold val
 have a := (s.getD 0 0).toNat_lt
 have b := (s.getD 1 0).toNat_lt
 have c := (s.getD 2 0).toNat_lt
 have d := (s.getD 3 0).toNat_lt
 omega
theorem or_add (a b k : Nat) (hb : b < 2 ^ k) : (a * 2 ^ k) ||| b = a * 2 ^ k + b := by
 rw [Nat.mul_comm, Nat.two_pow_add_eq_or_of_lt hb]
theorem val_go (a b c d : Nat) (ha : a < 256) (hb : b < 256) (hc : c < 256) (hd : d < 256) :
  Go.bits .or .u32 (Go.bits .or .u32 (Go.bits .or .u32 ((a : Int) % 4294967296 * 16777216 % 4294967296) ((b : Int) % 4294967296 * 65536 % 4294967296)) ((c : Int) % 4294967296 * 256 % 4294967296)) ((d : Int) % 4294967296) = (((a * 256 + b) * 65536 + c * 256 + d : Nat) : Int) := by
 rw [show (a : Int) % 4294967296 * 16777216 % 4294967296 = ((a * 16777216 : Nat) : Int) from by omega, show (b : Int) % 4294967296 * 65536 % 4294967296 = ((b * 65536 : Nat) : Int) from by omega,
  show (c : Int) % 4294967296 * 256 % 4294967296 = ((c * 256 : Nat) : Int) from by omega, show (d : Int) % 4294967296 = ((d : Nat) : Int) from by omega]
 have h1 : a * 16777216 ||| b * 65536 = (a * 256 + b) * 65536 := (or_add a (b * 65536) 24 (by omega)).trans (by omega)
 rw [u32_or_nat _ _ (by omega) (by omega), h1]
 have h2 : (a * 256 + b) * 65536 ||| c * 256 = (a * 256 + b) * 65536 + c * 256 := or_add (a * 256 + b) (c * 256) 16 (by omega)
 rw [u32_or_nat _ _ (by omega) (by omega), h2]
 have e3 : (a * 256 + b) * 65536 + c * 256 = ((a * 256 + b) * 256 + c) * 256 := by omega
 have h3 : ((a * 256 + b) * 256 + c) * 256 ||| d = ((a * 256 + b) * 256 + c) * 256 + d := or_add ((a * 256 + b) * 256 + c) d 8 (by omega)
 rw [u32_or_nat _ _ (by omega) (by omega), e3, h3]
def valTo : List UInt8 → Nat → Nat
 | _, 0 => 0
 | s, k + 1 => 256 * valTo s k + (s.getD k 0).toNat
theorem valTo_four (s : List UInt8) : valTo s 4 = val s := by simp only [valTo, val]; omega
theorem valTo_lt (s : List UInt8) (k : Nat) : valTo s k < 256 ^ k := by
 induction k with
 | zero => simp [valTo]
 | succ k ih =>
  have := (s.getD k 0).toNat_lt
  rw [valTo, Nat.pow_succ]
  omega
theorem valTo_lt3 (s : List UInt8) (k : Nat) (h : k < 4) : valTo s k < 16777216 := by
 have h1 := valTo_lt s k
 have h2 : 256 ^ k ≤ 256 ^ 3 := Nat.pow_le_pow_right (by omega) (by omega)
 have h3 : (256 : Nat) ^ 3 = 16777216 := rfl
 omega
theorem st_odd (r : Nat) (h : r < 4294967296) (e : r % 2 = 1) : Go.bits .xor .u32 ((r : Int) / 2) 3988292384 = (st r : Int) := by
 unfold st
 rw [if_pos e]
 have := u32_xor_nat (r / 2) 3988292384 (by omega) (by omega)
 rw [← this]
 congr 1
theorem st_even (r : Nat) (e : ¬ r % 2 = 1) : ((r : Int) / 2) = (st r : Int) := by
 unfold st
 rw [if_neg e]
 omega
end Crc
end Go.Proofs.YtgiojagdmglinaaGreatDoor
