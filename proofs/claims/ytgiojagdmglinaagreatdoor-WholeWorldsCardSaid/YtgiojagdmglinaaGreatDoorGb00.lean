/-
  Part 0 of a merged text.
-/
import Derived.WalkKit
import Derived.Laws.StructEq
import Derived.OwnWalk
import Derived.Laws.OwnMore
import Derived.Deep.OwnRows
import Derived.Deep.AppendLies
import Derived.Laws.MakeOwn
import Derived.Maps.AppendAt
import Derived.WalkLawsBesides
import Derived.WalkSpells
import Derived.Lib.Hide
import Derived.Laws.IdiomStrings
import Derived.Laws.BytesArg
import Derived.WideShapes
import Derived.Deep.MidRow
import Derived.Tactics
import Derived.Deep.RegionHeld3
set_option linter.unusedVariables false
set_option linter.unusedSimpArgs false
set_option maxRecDepth 100000
namespace Go.Proofs.YtgiojagdmglinaaGreatDoor
open Go Go.RowKit
namespace Kit
@[go_sem] def eqElems (d : Nat) (e : TypeId) (n : Nat) (xs ys : Array Value) : List Nat → Sem Bool
 | [] => pure true
 | i :: is => do
  let a ← part e xs (i * n)
  let b ← part e ys (i * n)
  let r ← Op.equalIn d e a b
  if (!r) = true then pure false else eqElems d e n xs ys is
section
variable {P : Program} (w : World)
theorem run_equalIn_array (d : Nat) (t e : TypeId) (len n : Nat) (xs ys : Array Value) (ht : P.underlying t = some (.array len e)) (hs : ∀ w, (sizeOf e).run P w = .ok n w) :
  (Op.equalIn (d + 1) t (.agg xs) (.agg ys)).run P w = (eqElems d e n xs ys (List.range' 0 len)).run P w := by
 simp only [Op.equalIn, Sem.run_bind, run_underlying ht, Result.andThen_ok, hs]
 rw [Std.Legacy.Range.forIn_eq_forIn_range']
 have hl : (⟨0, len, 1, by decide⟩ : Std.Legacy.Range).size = len := by simp [Std.Legacy.Range.size]
 simp only [hl]
 generalize List.range' 0 len = is
 clear ht
 induction is generalizing w with
 | nil => simp [eqElems]
 | cons i is ih =>
  simp only [List.forIn_cons, eqElems, Sem.run_bind, Sem.run_ite]
  generalize (part e xs (i * n)).run P w = r1
  cases r1 with
  | ok a w1 =>
   simp only [Result.andThen_ok]
   generalize (part e ys (i * n)).run P w1 = r2
   cases r2 with
   | ok b w2 =>
    simp only [Result.andThen_ok]
    generalize (Op.equalIn d e a b).run P w2 = r3
    cases r3 with
    | ok r w3 =>
     cases r
     ·simp only [Result.andThen_ok, Bool.not_false, if_true, Sem.run_pure]
     ·simp only [Result.andThen_ok, Bool.not_true, Bool.false_eq_true, if_false, Sem.run_pure]
      exact ih w3
    | halt x w3 => simp [Result.andThen]
   | halt x w2 => simp [Result.andThen]
  | halt x w1 => simp [Result.andThen]
end
end Kit
end Go.Proofs.YtgiojagdmglinaaGreatDoor
namespace Go.Proofs.YtgiojagdmglinaaGreatDoor
open Go.RowKit
namespace Kit
theorem bcell {W w1 : World} (hb : Below W.heap.size W w1) : (∀ b o, b < W.heap.size → w1.cell? ⟨b, o, none⟩ = W.cell? ⟨b, o, none⟩) ∧ (∀ b o, b < W.heap.size → w1.frozen? ⟨b, o, none⟩ = W.frozen? ⟨b, o, none⟩) :=
 ⟨fun b o h => hb.cell (p := ⟨b, o, none⟩) h, fun b o h => hb.frozen (p := ⟨b, o, none⟩) h⟩
theorem below_drewN (w : World) (n : Nat) : Below w.heap.size w (w.drewN n) := by
 have h := Below.refl w.heap.size w
 exact ⟨h.os, h.tape, h.output, h.size, h.block⟩
theorem chain {w w1 w2 : World} (h : Below w.heap.size w w1) (k : Below w1.heap.size w1 w2) : Below w.heap.size w w2 := h.trans (k.mono h.size)
theorem grown_of_below {w w1 : World} (h : Below w.heap.size w w1) (row : Option Nat) : w.grownBy w1 row := ⟨h.os, h.tape, h.output, h.size, fun i hi _ => h.block i hi⟩
theorem own_below {w w1 : World} {base : Nat} {e : TypeId} {size n : Nat} {v : Value} {xs : List Value} (h : w.ownsRow base e size v n xs) (hb : Below w.heap.size w w1) : w1.ownsRow base e size v n xs :=
 h.kept (grown_of_below hb none) (by cases v.ownBlock <;> simp)
theorem enters {P : Program} {g : Nat} {fn : Func} {c : Code} (hf : P.funcs[g]? = some fn) (hname : (fn.name == "runtime.NumGoroutine") = false) (hb : fn.body = some c) : ∀ args w, (callFunc g args).run P w = .ok (.enter g args) w := by
 intro args w
 have h1 : fn.name ≠ "runtime.NumGoroutine" := by simpa using hname
 simp [callFunc, hf, h1, hb, mark]
theorem own_base {w : World} {base : Nat} {e : TypeId} {size n : Nat} {v : Value} {xs : List Value} (h : w.ownsRow base e size v n xs) (k : Nat) (hk : v.ownBlock = some k) : base ≤ k := by
 rcases h.2 with ⟨rfl, _⟩ | ⟨g, cap, cur, rfl, hb, _⟩
 ·simp [Value.ownBlock] at hk
 ·have : g = k := by simpa [Value.ownBlock] using hk
  omega
theorem own_weaken {w : World} {base b' : Nat} {e : TypeId} {size n : Nat} {v : Value} {xs : List Value} (h : w.ownsRow base e size v n xs) (hb : b' ≤ base) : w.ownsRow b' e size v n xs := by
 refine ⟨h.1, ?_⟩
 rcases h.2 with h0 | ⟨g, cap, cur, e1, hb1, h2⟩
 ·exact .inl h0
 ·exact .inr ⟨g, cap, cur, e1, by omega, h2⟩
theorem grown_cell {w w1 : World} {row : Option Nat} (hg : w.grownBy w1 row) {b o : Nat} {v : Value} (hr : ∀ k, row = some k → b < k) (hc : w.cell? ⟨b, o, none⟩ = some v) : w1.cell? ⟨b, o, none⟩ = some v := by
 have hlt := World.block_lt_of_cell? w ⟨b, o, none⟩ hc
 have hb : w1.heap[b]? = w.heap[b]? := hg.block b hlt (fun e => by have := hr b e.symm; omega)
 exact (World.cell?_of_block (w := w) (w' := w1) (a := ⟨b, o, none⟩) hb).trans hc
theorem cell_below {w w1 : World} (h : Below w.heap.size w w1) {a : Addr} {v : Value} (hc : w.cell? a = some v) : w1.cell? a = some v := (h.cell (World.block_lt_of_cell? w a hc)).trans hc
theorem conv_bytes {P : Program} (src dst e : TypeId) (hs : P.underlying src = some .string) (hd : P.underlying dst = some (.slice e)) (he : P.underlying e = some (.int .u8)) (s : ByteArray) :
  ∃ (cap : World → Nat) (F : World → World), (∀ w, (convert src dst (.string s)).run P w = .ok (.slice (some ⟨w.heap.size, 0, none⟩) s.size (cap w)) (F w)) ∧
   ∀ w, Below w.heap.size w (F w) ∧ (F w).heap.size = w.heap.size + 1 ∧ (∀ j (h : j < s.data.toList.length), (F w).cell? ⟨w.heap.size, j, none⟩ = some (.int .u8 ((s.data.toList[j]).toNat : Int))) ∧ ∀ j, j < s.size → (F w).frozen? ⟨w.heap.size, j, none⟩ = false := by
 refine ⟨_, _, fun w => run_bytes_of_string w src dst e s hs hd he, fun w => ⟨?_, ?_, ?_, ?_⟩⟩
 ·have h := ((Below.refl w.heap.size w).drew).alloc (by simp) (.cells (bytesRow s (grownCap w s.size 0 e)) e ((bytesRow s (grownCap w s.size 0 e)).size, (bytesRow s (grownCap w s.size 0 e)).size + 1))
  exact h
 ·simp
 ·intro j h
  have h' : j < s.data.size := by simpa using h
  have := bytesRow_at s (grownCap w s.size 0 e) j h'
  rw [show w.heap.size = w.drew.heap.size from rfl, World.cell?_alloc_mark, this]
  simp
 ·intro j h
  have hz : s.size ≤ (bytesRow s (grownCap w s.size 0 e)).size := by
   have : s.data.size = s.size := rfl
   unfold bytesRow; simp
  have hb : (w.drew.alloc (.cells (bytesRow s (grownCap w s.size 0 e)) e ((bytesRow s (grownCap w s.size 0 e)).size, (bytesRow s (grownCap w s.size 0 e)).size + 1))).heap[w.heap.size]? = some (.cells (bytesRow s (grownCap w s.size 0 e)) e ((bytesRow s (grownCap w s.size 0 e)).size, (bytesRow s (grownCap w s.size 0 e)).size + 1)) := heap_alloc_new w.drew _
  unfold World.frozen?
  simp only [hb]
  simp
  omega
theorem conv_back {P : Program} (src dst e : TypeId) (hs : P.underlying src = some (.slice e)) (he : P.underlying e = some (.int .u8)) (hd : P.underlying dst = some .string) (xs : List Int) (cs : Array Value) (hc : cs.toList = xs.map (Value.int .u8)) (n c : Nat) (hn : xs.length = n) (w : World) :
  (convert src dst (.slice (some ⟨w.heap.size, 0, none⟩) n c)).run P (w.alloc (.cells cs e)) = .ok (.string (strOfNums xs)) (w.alloc (.cells cs e)) := by
 refine run_convert_bytes_arg _ src e hs he w.heap.size 0 n c xs hn (fun i hi => ?_) dst hd
 rw [Nat.zero_add, World.cell?_alloc_new]
 have h1 : cs[i]? = cs.toList[i]? := by simp
 rw [h1, hc]
 simp [List.getElem?_eq_getElem (show i < xs.length by omega), List.getD_eq_getElem?_getD]
end Kit
end Go.Proofs.YtgiojagdmglinaaGreatDoor
namespace Go.Proofs.YtgiojagdmglinaaGreatDoor
open Go.RowKit
namespace Kit
theorem cell_new {w w1 : World} {cs : Array Value} {e : TypeId} {z : Nat × Nat} (h : Below (w.alloc (.cells cs e z)).heap.size (w.alloc (.cells cs e z)) w1) (i : Nat) {v : Value} (hv : cs[i]? = some v) : w1.cell? ⟨w.heap.size, i, none⟩ = some v :=
 cell_below h ((World.cell?_alloc_mark ..).trans hv)
theorem str_ne {a b : ByteArray} (h : a ≠ b) : (a.toList == b.toList) = false := by
 rw [beq_eq_false_iff_ne, ByteArray.toList_eq, ByteArray.toList_eq]
 exact fun e => h (WideShapes.bytes_inj e)
theorem str_eq {a b : ByteArray} (h : a = b) : (a.toList == b.toList) = true := by rw [h]; simp
theorem str_some {s : ByteArray} (h : s.size ≠ 0) : (s.toList == (⟨#[]⟩ : ByteArray).toList) = false := str_ne (by rintro rfl; exact h rfl)
theorem str_full {s : ByteArray} (h : s.size ≠ 0) : s.toList.isEmpty = false := by
 rw [ByteArray.toList_eq]
 have hl : s.data.toList.length = s.size := Array.length_toList
 cases e : s.data.toList with
 | nil => rw [e] at hl; exact absurd hl.symm h
 | cons a l => rfl
theorem str_none {s : ByteArray} (h : s.size = 0) : s = ByteArray.empty := by
 obtain ⟨⟨l⟩⟩ := s
 have : l = [] := List.eq_nil_of_length_eq_zero h
 subst this
 rfl
end Kit
end Go.Proofs.YtgiojagdmglinaaGreatDoor
namespace Go.Proofs.YtgiojagdmglinaaGreatDoor
open Go.RowKit
namespace Kit
theorem free_below {w w1 : World} (h : Below w.heap.size w w1) {a : Addr} {v : Value} (hc : w.cell? a = some v) (hf : w.frozen? a = false) : w1.frozen? a = false := (h.frozen (World.block_lt_of_cell? w a hc)).trans hf
theorem free_new {w w1 : World} {cs : Array Value} {e : TypeId} (h : Below (w.alloc (.cells cs e)).heap.size (w.alloc (.cells cs e)) w1) (i : Nat) : w1.frozen? ⟨w.heap.size, i, none⟩ = false :=
 (h.frozen (p := ⟨w.heap.size, i, none⟩) (by simp)).trans (by unfold World.frozen?; rw [heap_alloc_new]; simp)
theorem alloc1 (w : World) (cs : Array Value) (T : TypeId) : Below w.heap.size w (w.alloc (.cells cs T)) := (Below.refl _ _).alloc (Nat.le_refl _) _
theorem alloc2 (w : World) (cs cs2 : Array Value) (T T2 : TypeId) : Below w.heap.size w ((w.alloc (.cells cs T)).alloc (.cells cs2 T2)) := ((Below.refl _ _).alloc (Nat.le_refl _) _).alloc (by simp) _
theorem alloc3 (w : World) (cs cs2 cs3 : Array Value) (T T2 T3 : TypeId) : Below w.heap.size w (((w.alloc (.cells cs T)).alloc (.cells cs2 T2)).alloc (.cells cs3 T3)) := (((Below.refl _ _).alloc (Nat.le_refl _) _).alloc (by simp) _).alloc (by simp; omega) _
theorem cell_old {w w1 : World} {cs cs2 : Array Value} {e e2 : TypeId} (h : Below ((w.alloc (.cells cs e)).alloc (.cells cs2 e2)).heap.size ((w.alloc (.cells cs e)).alloc (.cells cs2 e2)) w1) (i : Nat) {v : Value} (hv : cs[i]? = some v) : w1.cell? ⟨w.heap.size, i, none⟩ = some v :=
 cell_below h (cell_below (alloc1 ..) ((World.cell?_alloc_mark ..).trans hv))
theorem cell_two {w w1 : World} {cs cs2 : Array Value} {e e2 : TypeId} (h : Below ((w.alloc (.cells cs e)).alloc (.cells cs2 e2)).heap.size ((w.alloc (.cells cs e)).alloc (.cells cs2 e2)) w1) (i : Nat) {v : Value} (hv : cs2[i]? = some v) : w1.cell? ⟨w.heap.size + 1, i, none⟩ = some v := by
 have := cell_new h i hv
 rw [World.size_alloc] at this
 exact this
theorem lt_two {w w1 : World} {cs cs2 : Array Value} {e e2 : TypeId} (h : Below ((w.alloc (.cells cs e)).alloc (.cells cs2 e2)).heap.size ((w.alloc (.cells cs e)).alloc (.cells cs2 e2)) w1) : w.heap.size + 1 < w1.heap.size := by
 have := h.size
 simp at this
 omega
theorem lt_new {w w1 : World} {cs : Array Value} {e : TypeId} (h : Below (w.alloc (.cells cs e)).heap.size (w.alloc (.cells cs e)) w1) : w.heap.size < w1.heap.size := by
 have := h.size
 simp at this
 omega
end Kit
end Go.Proofs.YtgiojagdmglinaaGreatDoor
namespace Go.Proofs.YtgiojagdmglinaaGreatDoor
open Go.RowKit
namespace Kit
structure Row (w : World) (b : Nat) (L : List Value) : Prop where
 lt : b < w.heap.size
 at_ : ∀ (o : Nat) (v : Value), L[o]? = some v → w.cell? ⟨b, o, none⟩ = some v
 free : ∀ o, o < L.length → w.frozen? ⟨b, o, none⟩ = false
theorem Row.below {w w' : World} {b : Nat} {L : List Value} (h : Row w b L) (hb : Below w.heap.size w w') : Row w' b L :=
 ⟨Nat.lt_of_lt_of_le h.lt hb.size, fun o v hv => (hb.cell (p := ⟨b, o, none⟩) h.lt).trans (h.at_ o v hv), fun o ho => (hb.frozen (p := ⟨b, o, none⟩) h.lt).trans (h.free o ho)⟩
theorem Row.kept {w w' : World} {b N : Nat} {L : List Value} (h : Row w b L) (hb : Below N w w') (hN : b < N) : Row w' b L :=
 ⟨Nat.lt_of_lt_of_le h.lt hb.size, fun o v hv => (hb.cell (p := ⟨b, o, none⟩) hN).trans (h.at_ o v hv), fun o ho => (hb.frozen (p := ⟨b, o, none⟩) hN).trans (h.free o ho)⟩
theorem Row.set {w : World} {b : Nat} {L : List Value} (h : Row w b L) (o : Nat) (v : Value) (ho : o < L.length) : Row (w.setCell ⟨b, o, none⟩ v) b (L.set o v) where
 lt := by simpa using h.lt
 at_ := fun o' v' hv => by
  by_cases e : o = o'
  ·subst e
   rw [List.getElem?_set_self ho] at hv
   injection hv with hv
   subst hv
   exact World.cell?_setCell_same w _ _ (h.at_ o _ (List.getElem?_eq_getElem ho))
  ·rw [List.getElem?_set_ne e] at hv
   rw [World.cell?_setCell_other w _ _ _ (by intro e2; injection e2 with _ e3; exact e e3)]
   exact h.at_ o' v' hv
 free := fun o' ho' => by rw [World.frozen?_setCell]; exact h.free o' (by simpa using ho')
theorem Row.far {w : World} {b : Nat} {L : List Value} (h : Row w b L) (b2 o : Nat) (v : Value) (hne : b2 ≠ b) : Row (w.setCell ⟨b2, o, none⟩ v) b L where
 lt := by simpa using h.lt
 at_ := fun o' v' hv => by
  rw [World.cell?_setCell_other w _ _ _ (by intro e2; injection e2 with e3; exact hne e3)]
  exact h.at_ o' v' hv
 free := fun o' ho' => by rw [World.frozen?_setCell]; exact h.free o' ho'
theorem Row.new (w : World) (cs : Array Value) (e : TypeId) : Row (w.alloc (.cells cs e)) w.heap.size cs.toList where
 lt := by simp
 at_ := fun o v hv => (World.cell?_alloc_mark ..).trans (by simpa using hv)
 free := fun o _ => by unfold World.frozen?; rw [heap_alloc_new]; simp
theorem Row.newAt (w : World) (cs : Array Value) (e : TypeId) (k : Nat) (hk : w.heap.size = k) : Row (w.alloc (.cells cs e)) k cs.toList := hk ▸ Row.new w cs e
theorem Row.alloc {w : World} {b : Nat} {L : List Value} (h : Row w b L) (o : Obj) : Row (w.alloc o) b L := h.below ((Below.refl _ _).alloc (Nat.le_refl _) _)
theorem Row.drew {w : World} {b : Nat} {L : List Value} (h : Row w b L) : Row w.drew b L := ⟨h.lt, h.at_, h.free⟩
theorem Row.cast {w : World} {b : Nat} {L M : List Value} (h : Row w b L) (e : L = M) : Row w b M := e ▸ h
end Kit
end Go.Proofs.YtgiojagdmglinaaGreatDoor
namespace Go.Proofs.YtgiojagdmglinaaGreatDoor
open Go.RowKit
namespace Kit
def put (L : List Value) (o : Nat) : List Value → List Value
 | [] => L
 | v :: r => put (L.set o v) (o + 1) r
theorem put_len (vs : List Value) : ∀ (L : List Value) (o : Nat), (put L o vs).length = L.length := by
 induction vs with
 | nil => intro L o; rfl
 | cons v r ih => intro L o; unfold put; rw [ih]; simp
theorem put_eq (vs : List Value) : ∀ (L : List Value) (o : Nat), o + vs.length ≤ L.length → put L o vs = L.take o ++ (vs ++ L.drop (o + vs.length)) := by
 induction vs with
 | nil => intro L o _; simp [put]
 | cons v r ih =>
  intro L o h
  simp only [List.length_cons] at h
  unfold put
  rw [ih _ _ (by simp; omega)]
  have h1 : (L.set o v).take (o + 1) = L.take o ++ [v] := by
   rw [List.take_add_one, List.getElem?_set_self (by omega), List.take_set_of_le (Nat.le_refl _)]; rfl
  have h2 : (L.set o v).drop (o + 1 + r.length) = L.drop (o + (v :: r).length) := by
   rw [List.drop_set_of_lt (by omega), List.length_cons]; congr 1; omega
  rw [h1, h2]
  simp
theorem put_all (L vs : List Value) (h : vs.length = L.length) : put L 0 vs = vs := by
 rw [put_eq vs L 0 (by omega)]
 simp [h]
theorem Row.sets (vs : List Value) : ∀ {w : World} {b : Nat} {L : List Value} (_ : Row w b L) (o : Nat), o + vs.length ≤ L.length → Row (w.setCells b o vs) b (put L o vs) := by
 induction vs with
 | nil => intro w b L h o _; exact h
 | cons v r ih =>
  intro w b L h o ho
  simp only [List.length_cons] at ho
  exact ih (h.set o v (by omega)) (o + 1) (by simp; omega)
theorem Row.fars (vs : List Value) : ∀ {w : World} {b : Nat} {L : List Value} (_ : Row w b L) (b2 o : Nat), b2 ≠ b → Row (w.setCells b2 o vs) b L := by
 induction vs with
 | nil => intro w b L h b2 o _; exact h
 | cons v r ih => intro w b L h b2 o hne; exact ih (h.far b2 o v hne) b2 (o + 1) hne
theorem below_sets (vs : List Value) : ∀ {N : Nat} {w0 w : World} (_ : Below N w0 w) (b o : Nat), N ≤ b → Below N w0 (w.setCells b o vs) := by
 induction vs with
 | nil => intro N w0 w h b o _; exact h
 | cons v r ih => intro N w0 w h b o hb; exact ih (h.setCell (p := ⟨b, o, none⟩) hb v) b (o + 1) hb
theorem sets_size (vs : List Value) : ∀ (w : World) (b o : Nat), (w.setCells b o vs).heap.size = w.heap.size := by
 induction vs with
 | nil => intro w b o; rfl
 | cons v r ih => intro w b o; unfold World.setCells; rw [ih]; simp
theorem Row.range {w : World} {b : Nat} {L : List Value} (h : Row w b L) (o : Nat) (cs : List Value) (hc : ∀ j v, cs[j]? = some v → L[o + j]? = some v) : w.rangeAt b o cs := fun j v hv => h.at_ (o + j) v (hc j v hv)
theorem Row.there {w : World} {b : Nat} {L : List Value} (h : Row w b L) (o n : Nat) (hn : o + n ≤ L.length) : w.there b o n := fun j hj =>
 ⟨by rw [h.at_ (o + j) _ (List.getElem?_eq_getElem (by omega))]; rfl, h.free (o + j) (by omega)⟩
theorem part (L : List Value) (o n : Nat) : ∀ j v, ((L.drop o).take n)[j]? = some v → L[o + j]? = some v := fun j v h => by
 rw [List.getElem?_take] at h
 split at h
 ·rwa [List.getElem?_drop] at h
 ·cases h
def Stored (w W : World) (b o : Nat) (cs : List Value) : Prop := W = w.setCells b o cs
theorem Row.off {w W : World} {b b2 o : Nat} {L cs : List Value} (h : Row w b L) (s : Stored w W b2 o cs) (hne : b2 ≠ b) : Row W b L := by
 unfold Stored at s; subst s; exact h.fars cs b2 o hne
theorem Row.on {w W : World} {b o : Nat} {L cs : List Value} (h : Row w b L) (s : Stored w W b o cs) (hn : o + cs.length ≤ L.length) : Row W b (L.take o ++ (cs ++ L.drop (o + cs.length))) := by
 unfold Stored at s; subst s; rw [← put_eq cs L o hn]; exact h.sets cs o hn
theorem Row.all {w W : World} {b : Nat} {L cs : List Value} (h : Row w b L) (s : Stored w W b 0 cs) (hn : cs.length = L.length) : Row W b cs := by
 unfold Stored at s; subst s; have := h.sets cs 0 (by omega); rwa [put_all L cs hn] at this
theorem below_of {N : Nat} {w0 w W : World} {b o : Nat} {cs : List Value} (h : Below N w0 w) (s : Stored w W b o cs) (hb : N ≤ b) : Below N w0 W := by
 unfold Stored at s; subst s; exact below_sets cs h b o hb
theorem size_of {w W : World} {b o : Nat} {cs : List Value} (s : Stored w W b o cs) : W.heap.size = w.heap.size := by
 unfold Stored at s; subst s; exact sets_size cs w b o
section
variable {P : Program}
theorem hold_store {ops : Array Oper} {rest : List Oper} {op : Oper} {a : Act} {w : World} {Q : Exit → Act → World → Prop} (ty : TypeId) (x y : Operand) (ho : op.op = .store ty x y) (h : Hid (wpList P ops Q (op :: rest) a w)) : wpList P ops Q (op :: rest) a w := h.out
theorem hold_load {ops : Array Oper} {rest : List Oper} {op : Oper} {a : Act} {w : World} {Q : Exit → Act → World → Prop} (ty : TypeId) (x : Operand) (ho : op.op = .load ty x) (h : Hid (wpList P ops Q (op :: rest) a w)) : wpList P ops Q (op :: rest) a w := h.out
theorem wpList_load_row {ops : Array Oper} {rest : List Oper} {op : Oper} {a : Act} {w : World} {Q : Exit → Act → World → Prop} (hgd : op.guard = none) (ty : TypeId) (x : Operand) (ho : op.op = .load ty x)
  (b o : Nat) (hx : a.eval x = .pointer (some ⟨b, o, none⟩)) {L : List Value} (hr : Row w b L) (cs : List Value) (hcs : (L.drop o).take cs.length = cs) (d : TypeDesc)
  (hu : P.underlying ty = some d) (hd : d.isRow = true) (hi : (P.info? ty).map (·.size) = some cs.length)
  (h : wpList P ops Q rest (a.put op.dst (.agg cs.toArray)) w) : wpList P ops Q (op :: rest) a w :=
 wpList_load_mid hgd ty x ho b o hx cs d (hr.range o cs (by rw [← hcs]; exact part L o _)) hu hd hi h
theorem wpList_store_row {ops : Array Oper} {rest : List Oper} {op : Oper} {a : Act} {w : World} {Q : Exit → Act → World → Prop} (hgd : op.guard = none) (ty : TypeId) (x y : Operand) (ho : op.op = .store ty x y)
  (b o : Nat) (cells : Array Value) (hx : a.eval x = .pointer (some ⟨b, o, none⟩)) (hy : a.eval y = .agg cells)
  {L : List Value} (hr : Row w b L) (hn : o + cells.size ≤ L.length) (hi : (P.info? ty).map (·.size) = some cells.size) (h1 : cells.all (·.oneCell') = true)
  (h : ∀ W, Stored w W b o cells.toList → wpList P ops Q rest (a.put op.dst undef) W) : wpList P ops Q (op :: rest) a w :=
 wpList_store_mid hgd ty x y ho b o cells hx hy (hr.there o _ hn) hi h1 (h _ rfl)
end
end Kit
end Go.Proofs.YtgiojagdmglinaaGreatDoor
namespace Go.Proofs.YtgiojagdmglinaaGreatDoor
open Go.RowKit
namespace Kit
section
variable {P : Program}
structure Var (P : Program) (w : World) (ty : TypeId) (v : Value) (cs : List Value) : Prop where
 ex : ∃ b d, v = .pointer (some ⟨b, 0, none⟩) ∧ Row w b cs ∧ P.underlying ty = some d ∧ d.isRow = true ∧ (P.info? ty).map (·.size) = some cs.length
theorem Var.run {w : World} {ty : TypeId} {v : Value} {cs : List Value} (h : Var P w ty v cs) : ∃ b, v = .pointer (some ⟨b, 0, none⟩) ∧ (loadVar ty ⟨b, 0, none⟩).run P w = .ok (.agg cs.toArray) w := by
 obtain ⟨b, d, rfl, hr, hu, hd, hi⟩ := h.ex
 exact ⟨b, rfl, run_loadVar_mid w b 0 ty cs d (hr.range 0 cs (fun j v hv => by rwa [Nat.zero_add])) hu hd hi⟩
theorem Var.mk' {w : World} {ty : TypeId} {b : Nat} {cs : List Value} {d : TypeDesc} (hr : Row w b cs) (hu : P.underlying ty = some d) (hd : d.isRow = true) (hi : (P.info? ty).map (·.size) = some cs.length) : Var P w ty (.pointer (some ⟨b, 0, none⟩)) cs :=
 ⟨b, d, rfl, hr, hu, hd, hi⟩
theorem res_c {fn : Func} {p : Tmp} {ty : TypeId} (h : fn.results = #[.cell p ty]) (tmps : Array Value) (w : World) {cs : List Value} (hv : Var P w ty (tmps.getD p undef) cs) :
  (results fn tmps).run P w = .ok (.agg cs.toArray) w := by
 obtain ⟨b, e, hl⟩ := hv.run
 have e' : tmps[p]?.getD undef = .pointer (some ⟨b, 0, none⟩) := by simpa using e
 simp [results, h, e', asAddr, hl]
theorem res_ct {fn : Func} {p u : Tmp} {ty : TypeId} (h : fn.results = #[.cell p ty, .tmp u]) (tmps : Array Value) (w : World) {cs : List Value} (hv : Var P w ty (tmps.getD p undef) cs) :
  (results fn tmps).run P w = .ok (.tuple #[.agg cs.toArray, tmps.getD u undef]) w := by
 obtain ⟨b, e, hl⟩ := hv.run
 have e' : tmps[p]?.getD undef = .pointer (some ⟨b, 0, none⟩) := by simpa using e
 simp [results, h, e', asAddr, hl]
theorem res_cct {fn : Func} {p q u : Tmp} {ty ty2 : TypeId} (h : fn.results = #[.cell p ty, .cell q ty2, .tmp u]) (tmps : Array Value) (w : World) {cs cs2 : List Value} (hv : Var P w ty (tmps.getD p undef) cs) (hv2 : Var P w ty2 (tmps.getD q undef) cs2) :
  (results fn tmps).run P w = .ok (.tuple #[.agg cs.toArray, .agg cs2.toArray, tmps.getD u undef]) w := by
 obtain ⟨b, e, hl⟩ := hv.run
 obtain ⟨b2, e2, hl2⟩ := hv2.run
 have e' : tmps[p]?.getD undef = .pointer (some ⟨b, 0, none⟩) := by simpa using e
 have e2' : tmps[q]?.getD undef = .pointer (some ⟨b2, 0, none⟩) := by simpa using e2
 simp [results, h, e', e2', asAddr, hl, hl2]
theorem res_tct {fn : Func} {p q u : Tmp} {ty : TypeId} (h : fn.results = #[.tmp p, .cell q ty, .tmp u]) (tmps : Array Value) (w : World) {cs : List Value} (hv : Var P w ty (tmps.getD q undef) cs) :
  (results fn tmps).run P w = .ok (.tuple #[tmps.getD p undef, .agg cs.toArray, tmps.getD u undef]) w := by
 obtain ⟨b, e, hl⟩ := hv.run
 have e' : tmps[q]?.getD undef = .pointer (some ⟨b, 0, none⟩) := by simpa using e
 simp [results, h, e', asAddr, hl]
end
end Kit
end Go.Proofs.YtgiojagdmglinaaGreatDoor
namespace Go.Proofs.YtgiojagdmglinaaGreatDoor
open Go Go.RowKit
namespace Rgn
section
variable {P : Program} {ops : Array Oper} {Q : Exit → Act → World → Prop} {md : Region.Mode} {S : World → Prop}
theorem at_ {i : Nat} {o : Oper} {rest : List Oper} (h : ops.toList.drop i = o :: rest) : ops[i]? = some o := by
 have h1 : (ops.toList.drop i)[0]? = some o := by rw [h]; rfl
 rw [List.getElem?_drop] at h1
 simpa using h1
theorem take (i : Nat) {oi : Oper} {rest : List Oper} {v : Value} {fuel : Nat} {listed : Array Bool} {a : Act} {w : World} (hi : ops.toList.drop i = oi :: rest)
  (hs : Region.noSelect ops = true) (hf : Region.free md ops listed i = true) (hr : (Region.ready md ops listed).contains i = true)
  (hQ : ∀ c a w, Q (.panic c) (a.put oi.dst v) w → Q (.panic c) a w) (hw : Region.wanted oi (yielded ops a.tmps) = true) (hy : ∀ w, S w → (execOp a.eval oi).run P w = .ok (.value v) w) (hS : S w)
  (h : wpAnyH P md ops Q S fuel (listed.setIfInBounds i true) (a.put oi.dst v) w) : wpAnyH P md ops Q S (fuel + 1) listed a w :=
 wpAnyH_take (at_ hi) hs hf hr hQ (Or.inl ⟨hw, hy⟩) hS h
theorem skip (i : Nat) {oi : Oper} {rest : List Oper} {fuel : Nat} {listed : Array Bool} {a : Act} {w : World} (hi : ops.toList.drop i = oi :: rest)
  (hs : Region.noSelect ops = true) (hf : Region.free md ops listed i = true) (hr : (Region.ready md ops listed).contains i = true)
  (hQ : ∀ c a w, Q (.panic c) (a.put oi.dst undef) w → Q (.panic c) a w) (hw : Region.wanted oi (yielded ops a.tmps) = false) (hS : S w)
  (h : wpAnyH P md ops Q S fuel (listed.setIfInBounds i true) (a.put oi.dst undef) w) : wpAnyH P md ops Q S (fuel + 1) listed a w :=
 wpAnyH_take (at_ hi) hs hf hr hQ (Or.inr ⟨hw, rfl⟩) hS h
theorem one (i : Nat) {oi : Oper} {rest : List Oper} {fuel : Nat} {listed : Array Bool} {a : Act} {w : World} (hi : ops.toList.drop i = oi :: rest) (hr : Region.ready md ops listed = [i])
  (h : ∀ K' : Act → World → Prop, Shut (∀ a w, S w → (S w → wpAnyH P md ops Q S fuel (listed.setIfInBounds i true) a w) → K' a w) → if Region.wanted oi (yielded ops a.tmps) = true then Oper.wp P oi a w K' Q else K' (a.put oi.dst undef) w) :
  wpAnyH P md ops Q S (fuel + 1) listed a w :=
 wpAnyH_ready hr (by simp) (AllReadyH.cons (at_ hi) h AllReadyH.nil)
theorem two (i j : Nat) {oi oj : Oper} {ri rj : List Oper} {fuel : Nat} {listed : Array Bool} {a : Act} {w : World} (hi : ops.toList.drop i = oi :: ri) (hj : ops.toList.drop j = oj :: rj) (hr : Region.ready md ops listed = [i, j])
  (h : ∀ K' : Act → World → Prop, Shut (∀ a w, S w → (S w → wpAnyH P md ops Q S fuel (listed.setIfInBounds i true) a w) → K' a w) → if Region.wanted oi (yielded ops a.tmps) = true then Oper.wp P oi a w K' Q else K' (a.put oi.dst undef) w)
  (k : ∀ K' : Act → World → Prop, Shut (∀ a w, S w → (S w → wpAnyH P md ops Q S fuel (listed.setIfInBounds j true) a w) → K' a w) → if Region.wanted oj (yielded ops a.tmps) = true then Oper.wp P oj a w K' Q else K' (a.put oj.dst undef) w) :
  wpAnyH P md ops Q S (fuel + 1) listed a w :=
 wpAnyH_ready hr (by simp) (AllReadyH.cons (at_ hi) h (AllReadyH.cons (at_ hj) k AllReadyH.nil))
end
theorem a {α : Type _} {l : List α} {i : Nat} {a : α} : l.toArray.setIfInBounds i a = (l.set i a).toArray := by simp
theorem b {α : Type _} {x : α} {xs : List α} {a : α} : (x :: xs).set 0 a = a :: xs := rfl
theorem c {α : Type _} {x : α} {xs : List α} {i : Nat} {a : α} : (x :: xs).set (i + 1) a = x :: xs.set i a := rfl
theorem tk {P : Program} {ops : Array Oper} {Q : Exit → Act → World → Prop} {md : Region.Mode} {S : World → Prop} (i : Nat) {oi : Oper} {rest : List Oper} {v : Value} {fuel : Nat} {listed : Array Bool} {a : Act} {w : World} (hi : ops.toList.drop i = oi :: rest)
  (h : wpAnyH P md ops Q S fuel (listed.setIfInBounds i true) (a.put oi.dst v) w)
  (hy : ∀ w, S w → (execOp a.eval oi).run P w = .ok (.value v) w := by
   intro w hSw
   (try dsimp only at hSw)
   go_simp
   try with_reducible rfl)
  (hs : Region.noSelect ops = true := by kernel_rfl) (hf : Region.free md ops listed i = true := by kernel_rfl) (hr : (Region.ready md ops listed).contains i = true := by kernel_rfl)
  (hQ : ∀ c a w, Q (.panic c) (a.put oi.dst v) w → Q (.panic c) a w := by exact fun _ _ _ h => h) (hw : Region.wanted oi (yielded ops a.tmps) = true := by kernel_rfl) (hS : S w := by assumption) : wpAnyH P md ops Q S (fuel + 1) listed a w :=
 take i hi hs hf hr hQ hw hy hS h
theorem sk {P : Program} {ops : Array Oper} {Q : Exit → Act → World → Prop} {md : Region.Mode} {S : World → Prop} (i : Nat) {oi : Oper} {rest : List Oper} {fuel : Nat} {listed : Array Bool} {a : Act} {w : World} (hi : ops.toList.drop i = oi :: rest)
  (h : wpAnyH P md ops Q S fuel (listed.setIfInBounds i true) (a.put oi.dst undef) w)
  (hs : Region.noSelect ops = true := by kernel_rfl) (hf : Region.free md ops listed i = true := by kernel_rfl) (hr : (Region.ready md ops listed).contains i = true := by kernel_rfl)
  (hQ : ∀ c a w, Q (.panic c) (a.put oi.dst undef) w → Q (.panic c) a w := by exact fun _ _ _ h => h) (hw : Region.wanted oi (yielded ops a.tmps) = false := by kernel_rfl) (hS : S w := by assumption) : wpAnyH P md ops Q S (fuel + 1) listed a w :=
 skip i hi hs hf hr hQ hw hS h
end Rgn
end Go.Proofs.YtgiojagdmglinaaGreatDoor
namespace Go.Proofs.YtgiojagdmglinaaGreatDoor
open Go.RowKit
namespace Kit
section
variable {P : Program}
theorem exec_load {op : Oper} {a : Act} {w : World} (ty : TypeId) (x : Operand) (ho : op.op = .load ty x) (b o : Nat) (hx : a.eval x = .pointer (some ⟨b, o, none⟩)) (cs : List Value) (d : TypeDesc) (hc : w.rangeAt b o cs)
  (hu : P.underlying ty = some d) (hd : d.isRow = true) (hi : (P.info? ty).map (·.size) = some cs.length) : (execOp a.eval op).run P w = .ok (.value (.agg cs.toArray)) w := by
 unfold execOp
 simp only [ho, hx, Instr.loadAt, Instr.sureAddr, Sem.run_bind, Sem.run_pure, Result.andThen_ok, run_loadVar_mid w b o ty cs d hc hu hd hi]
structure Mine (w : World) (b : Nat) (cs : List Value) : Prop where
 r : w.rangeAt b 0 cs
 t : w.there b 0 cs.length
theorem Row.mine {w : World} {b : Nat} {cs : List Value} (h : Row w b cs) : Mine w b cs := ⟨h.range 0 cs (fun j v hv => by rwa [Nat.zero_add]), h.there 0 _ (by omega)⟩
theorem Mine.drew {w : World} {b : Nat} {cs : List Value} (h : Mine w b cs) : Mine w.drew b cs := ⟨by rw [World.rangeAt_drew]; exact h.r, by rw [World.there_drew]; exact h.t⟩
theorem Mine.same {w : World} {b : Nat} {cs ds : List Value} (h : Mine w b cs) (hl : ds.length = cs.length) : Mine (w.setCells b 0 ds) b ds :=
 ⟨World.rangeAt_setCells_same w b 0 ds (by rw [hl]; exact h.t), by have := World.there_setCells h.t b 0 ds; rwa [← hl] at this⟩
theorem Mine.far {w : World} {b b2 : Nat} {cs ds : List Value} (h : Mine w b cs) (hne : b ≠ b2) : Mine (w.setCells b2 0 ds) b cs :=
 ⟨World.rangeAt_setCells_apart h.r b2 0 ds (Or.inl hne), World.there_setCells h.t b2 0 ds⟩
theorem Mine.sameS {w W : World} {b : Nat} {cs ds : List Value} (h : Mine w b cs) (s : Stored w W b 0 ds) (hl : ds.length = cs.length) : Mine W b ds := by
 unfold Stored at s; subst s; exact h.same hl
theorem Mine.farS {w W : World} {b b2 : Nat} {cs ds : List Value} (h : Mine w b cs) (s : Stored w W b2 0 ds) (hne : b ≠ b2) : Mine W b cs := by
 unfold Stored at s; subst s; exact h.far hne
theorem wp_store_mine {op : Oper} {a : Act} {w : World} {K : Act → World → Prop} {Q : Exit → Act → World → Prop} (ty : TypeId) (x y : Operand) (ho : op.op = .store ty x y)
  (b : Nat) (cs : List Value) (hx : a.eval x = .pointer (some ⟨b, 0, none⟩)) (hy : a.eval y = .agg cs.toArray) {ds : List Value} (hm : Mine w b ds) (hl : cs.length = ds.length)
  (hi : (P.info? ty).map (·.size) = some cs.length) (h1 : ∀ v ∈ cs, v.oneCell' = true)
  (h : ∀ W, Stored w W b 0 cs → K (a.put op.dst undef) W) : op.wp P a w K Q :=
 wp_store_mid ty x y ho b 0 cs.toArray hx hy (by have := hm.t; rw [← hl] at this; simpa using this) (by simpa using hi) (all_oneCell_toArray h1) (h _ rfl)
theorem Mine.var {w : World} {ty : TypeId} {b : Nat} {cs : List Value} {d : TypeDesc} (hr : Mine w b cs) (hu : P.underlying ty = some d) (hd : d.isRow = true) (hi : (P.info? ty).map (·.size) = some cs.length) (h0 : 0 < cs.length) : Var P w ty (.pointer (some ⟨b, 0, none⟩)) cs :=
 Var.mk' (d := d) (b := b) ⟨by
   obtain ⟨v, hv⟩ : ∃ v, cs[0]? = some v := ⟨_, List.getElem?_eq_getElem h0⟩
   exact World.block_lt_of_cell? w _ (hr.r 0 v hv), fun o v hv => by have := hr.r o v hv; rwa [Nat.zero_add] at this, fun o ho => by have := (hr.t o ho).2; rwa [Nat.zero_add] at this⟩ hu hd hi
end
end Kit
end Go.Proofs.YtgiojagdmglinaaGreatDoor
