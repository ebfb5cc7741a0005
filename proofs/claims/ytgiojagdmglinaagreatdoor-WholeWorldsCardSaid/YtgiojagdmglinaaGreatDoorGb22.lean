/-
  Part 22 of a merged text.
-/
import Derived.Test.YtgiojagdmglinaaGreatDoorGb21
import Derived.Test.YtgiojagdmglinaaGreatDoorGb06
import Derived.Maps.AppendAt
import Derived.Deep.RegionWith
import Derived.Great.Walk
set_option linter.unusedVariables false
set_option linter.unusedSimpArgs false
set_option maxRecDepth 100000
namespace Go.Proofs.YtgiojagdmglinaaGreatDoor
open Go.RowKit
namespace Tk
def sp (x : Wd) (s : ByteArray) (k : Nat) : List ByteArray := (List.range k).map fun i => if Vw.fnode x.c x.v i then s else Wire.put (Wm.say x.n (ndAt x.nodes i))
theorem sp_succ (x : Wd) (s : ByteArray) (k : Nat) : sp x s (k + 1) = sp x s k ++ [if Vw.fnode x.c x.v k then s else Wire.put (Wm.say x.n (ndAt x.nodes k))] := by
 simp [sp, List.range_succ]
theorem sp_len (x : Wd) (s : ByteArray) (k : Nat) : (sp x s k).length = k := by simp [sp]
def txt (l : List ByteArray) : List Value := l.map Value.string
theorem txt_snoc (l : List ByteArray) (s : ByteArray) : txt (l ++ [s]) = txt l ++ [.string s] := by simp [txt]
theorem strInfo : (Tryz.prog.info? 9).map (fun i => (i.zero, i.size, i.bytes)) = some (some (.string ⟨#[]⟩), 1, 16) := by kernel_rfl
theorem js0 (a b : Value) (w : World) : (Instr.index 51 (.agg #[a, b]) (.int .i64 0)).run Tryz.prog w = .ok a w := by kernel_rfl
theorem js1 (a b : Value) (w : World) : (Instr.index 51 (.agg #[a, b]) (.int .i64 1)).run Tryz.prog w = .ok b w := by kernel_rfl
structure Two (w : World) (base : Nat) (v0 v1 : Value) (n0 n1 : Nat) (l0 l1 : List ByteArray) : Prop where
 a : w.ownsRow base 9 1 v0 n0 (txt l0)
 b : w.ownsRow base 9 1 v1 n1 (txt l1)
 ne : v0.ownBlock = none ∨ v0.ownBlock ≠ v1.ownBlock
theorem Two.drew {w : World} {base : Nat} {v0 v1 : Value} {n0 n1 : Nat} {l0 l1 : List ByteArray} (h : Two w base v0 v1 n0 n1 l0 l1) : Two w.drew base v0 v1 n0 n1 l0 l1 := ⟨h.a.drew, h.b.drew, h.ne⟩
theorem Two.below {w w' : World} {base : Nat} {v0 v1 : Value} {n0 n1 : Nat} {l0 l1 : List ByteArray} (h : Two w base v0 v1 n0 n1 l0 l1) (hb : Below w.heap.size w w') : Two w' base v0 v1 n0 n1 l0 l1 := ⟨Kit.own_below h.a hb, Kit.own_below h.b hb, h.ne⟩
theorem own_lt {w : World} {base : Nat} {v : Value} {n : Nat} {xs : List Value} (h : w.ownsRow base 9 1 v n xs) : v.ownBlock = none ∨ ∃ g, v.ownBlock = some g ∧ base ≤ g ∧ g < w.heap.size := by
 rcases h.2 with ⟨rfl, _⟩ | ⟨g, cap, cur, rfl, hb, hgg, _⟩
 ·exact Or.inl rfl
 ·exact Or.inr ⟨g, rfl, hb, (Array.getElem?_eq_some_iff.1 hgg).1⟩
theorem Two.set {w : World} {base : Nat} {v0 v1 : Value} {n0 n1 : Nat} {l0 l1 : List ByteArray} (h : Two w base v0 v1 n0 n1 l0 l1) (b o : Nat) (u : Value) (hb : b < base) : Two (w.setCell ⟨b, o, none⟩ u) base v0 v1 n0 n1 l0 l1 := ⟨ownsRow_setCell_below h.a (a := ⟨b, o, none⟩) hb u, ownsRow_setCell_below h.b (a := ⟨b, o, none⟩) hb u, h.ne⟩
theorem Two.step0 {w w3 : World} {o : Obj} {base : Nat} {v0 v1 v' : Value} {n0 n1 : Nat} {l0 l1 : List ByteArray} {s : ByteArray} (h : Two w base v0 v1 n0 n1 l0 l1)
  (ho : w3.ownsRow base 9 1 v' (n0 + 1) (txt l0 ++ [.string s])) (hg : (w.alloc o).grownBy w3 v0.ownBlock) (hat : v'.ownBlock = v0.ownBlock ∨ v'.ownBlock = some (w.heap.size + 1)) : Two w3 base v' v1 (n0 + 1) n1 (l0 ++ [s]) l1 := by
 refine ⟨by rw [txt_snoc]; exact ho, (h.b.alloc o).kept hg ?_, ?_⟩
 ·rcases h.ne with e | e
  ·rw [e]
   rcases own_lt h.b with e1 | ⟨g, e1, _⟩
   ·exact Or.inl e1
   ·exact Or.inr (by rw [e1]; simp)
  ·exact Or.inr (fun e2 => e e2.symm)
 ·rcases hat with e | e
  ·rw [e]; exact h.ne
  ·rw [e]
   rcases own_lt h.b with e1 | ⟨g, e1, _, hlt⟩
   ·exact Or.inr (by rw [e1]; simp)
   ·refine Or.inr ?_
    rw [e1]
    intro e2
    injection e2 with e2
    omega
theorem Two.step1 {w w3 : World} {o : Obj} {base : Nat} {v0 v1 v' : Value} {n0 n1 : Nat} {l0 l1 : List ByteArray} {s : ByteArray} (h : Two w base v0 v1 n0 n1 l0 l1)
  (ho : w3.ownsRow base 9 1 v' (n1 + 1) (txt l1 ++ [.string s])) (hg : (w.alloc o).grownBy w3 v1.ownBlock) (hat : v'.ownBlock = v1.ownBlock ∨ v'.ownBlock = some (w.heap.size + 1)) : Two w3 base v0 v' n0 (n1 + 1) l0 (l1 ++ [s]) := by
 refine ⟨(h.a.alloc o).kept hg h.ne, by rw [txt_snoc]; exact ho, ?_⟩
 rcases hat with e | e
 ·rw [e]; exact h.ne
 ·rw [e]
  rcases own_lt h.a with e1 | ⟨g, e1, _, hlt⟩
  ·exact Or.inl e1
  ·refine Or.inr ?_
   rw [e1]
   intro e2
   injection e2 with e2
   omega
theorem grown_below {w w3 : World} {o : Obj} {base n : Nat} {v : Value} {xs : List Value} (h : w.ownsRow base 9 1 v n xs) (hb : base ≤ w.heap.size) (hg : (w.alloc o).grownBy w3 v.ownBlock) : Below base w w3 := by
 have hb7 := Kit.own_base h
 exact ((Below.refl base w).alloc hb o).grown hg (by simp; omega) (fun q hq => hb7 q hq)
theorem put_le (z : Fr) : (Wire.put z).size ≤ maxLen := by
 cases h : z.right with
 | true => rw [Wire.put_size h]; unfold maxLen; omega
 | false => unfold Wire.put; rw [h]; split <;> simp [maxLen, ByteArray.size]
theorem sp_size (x : Wd) (s : ByteArray) (hs : s.size ≤ maxLen) (k : Nat) : ∀ t ∈ sp x s k, t.size ≤ maxLen := by
 intro t ht
 simp only [sp, List.mem_map] at ht
 obtain ⟨i, _, rfl⟩ := ht
 split
 ·exact hs
 ·exact put_le _
theorem strs_own {w : World} {base n : Nat} {v : Value} {l : List ByteArray} (hl : l.length = n) (hn : 0 < n) (h : w.ownsRow base 9 1 v n (txt l)) : ∃ A c, v = .slice A n c ∧ Strs w A n l := by
 obtain ⟨g, cap, rfl, _, hg⟩ := h.form hn
 refine ⟨_, cap, rfl, by simpa using hl, fun _ => ⟨g, 0, rfl, hg, fun j c hj i v hv => ?_⟩⟩
 rw [List.getElem?_map] at hj
 obtain ⟨s, hs, rfl⟩ := Option.map_eq_some_iff.1 hj
 have hjl := (List.getElem?_eq_some_iff.1 hs).1
 have hi : i = 0 := by
  have := (List.getElem?_eq_some_iff.1 hv).1
  simpa using this
 subst hi
 simp at hv
 subst hv
 have e : (0 + j * 1 + 0) = j := by omega
 rw [e, h.cellAt j (by omega)]
 simp [txt, hs]
theorem frames_own {w : World} {base n : Nat} {v : Value} {l : List ByteArray} (h : w.ownsRow base 45 2 v n (Port.cells (Port.take l n))) : ∃ A c, v = .slice A n c ∧ Frames w A n (Port.take l n) := by
 have h2 := Port.of_own (l := Port.take l n) (by rw [Port.take_len]; exact h)
 rw [Port.take_len] at h2
 exact h2
theorem take_text (W : World) (base n : Nat) (v : Value) (l : List ByteArray) (hl : l.length = n) (h : W.ownsRow base 9 1 v n (txt l)) (hs : ∀ s ∈ l, s.size ≤ maxLen) (h3 : 3 ≤ n) (h8 : n ≤ 8) :
  Calls Tryz.prog 68 #[.int .i64 n, v] W (Port.Row W (Port.take l n) 0) := by
 obtain ⟨A, c, rfl, hS⟩ := strs_own hl (by omega) h
 exact Port.take1 A n c l W hS hs h3 h8
set_option maxHeartbeats 4000000 in
theorem speak_calls (base B : Nat) (i0 i1 : Value) (x : Wd) (ch : Ch) (f0 f1 : Fr) (w : World) (hbB : base ≤ B) (R : Kit.Row w B (cells x ch i0 i1 f0 f1)) (hx : x.Right) (hn : Nodes w x.na x.n x.nodes) (hb0 : ch.b0.size ≤ maxLen) (hb1 : ch.b1.size ≤ maxLen) :
  Calls Tryz.prog 35 #[.pointer (some ⟨B, 0, none⟩)] w
   fun e w' => e = .returned (.tuple #[]) ∧ ∃ A0 A1 k0 k1, Kit.Row w' B (cells x ch (.slice A0 x.n k0) (.slice A1 x.n k1) f0 f1) ∧ Frames w' A0 x.n (Port.take (sp x ch.b0 x.n) x.n) ∧ Frames w' A1 x.n (Port.take (sp x ch.b1 x.n) x.n) ∧ Below base w w' := by
 have h3 := hx.lo
 have h8 := hx.hi
 have kso := fun (k : Nat) (hk : k < x.n) W => Say.of_calls x.n k (ndAt x.nodes k) W h3 h8 hk (hx.nd k hk)
 have kli := fun (k : Nat) f W => Flt.lines_calls x.c x.v ch k f W
 have hnl := hx.nl
 have hna := fun (k : Nat) (hk : k < x.n) => Nodes.at_ hn hk
 obtain ⟨b, off, ha, _⟩ := hna 0 (by omega)
 have KSO := Lib.hid kso
 have KLI := Lib.hid kli
 have HN := Lib.hid hn
 have RR := Lib.hid R
 have c5 := R.at_ 5 (.slice x.na x.n x.nc) rfl
 have ltB := R.lt
 obtain ⟨si, hsi, hs0, hs1, hs2⟩ := info_parts strInfo
 clear R hn kso kli hna
 go_enter Tryz.func35, Tryz.ntmps35
 rw [ha] at c5
 go_wp2_with fail
 have T0 : Two (w.alloc (.cells #[.slice none 0 0, .slice none 0 0] 108)) (w.heap.size + 1) (.slice none 0 0) (.slice none 0 0) 0 0 [] [] := ⟨World.ownsRow_nil _ _ _ _, World.ownsRow_nil _ _ _ _, Or.inl rfl⟩
 have RA := (RR.out.alloc (.cells #[.slice none 0 0, .slice none 0 0] 108))
 have RT := Kit.Row.new w #[.slice none 0 0, .slice none 0 0] 108
 have BA : Below w.heap.size w (w.alloc (.cells #[.slice none 0 0, .slice none 0 0] 108)) := (Below.refl _ _).alloc (Nat.le_refl _) _
 go_loopw [16] (fun vi wr => ∃ k : Nat, k ≤ x.n ∧ vi = .int .i64 k ∧ ∃ v0 v1, Hid (Two wr (w.heap.size + 1) v0 v1 k k (sp x ch.b0 k) (sp x ch.b1 k)) ∧ Hid (Kit.Row wr B (cells x ch i0 i1 f0 f1)) ∧ Hid (Kit.Row wr w.heap.size [v0, v1]) ∧ Hid (Below w.heap.size w wr)) (fun vi _ => x.n - (intOf vi).toNat)
 case atStart => exact ⟨0, by omega, rfl, _, _, Lib.hid T0, Lib.hid RA, Lib.hid RT, Lib.hid BA⟩
 case round =>
  clear T0 RA RT BA c5
  obtain ⟨k, hk, rfl, v0, v1, HT, HR, HW, HB⟩ := hrel
  by_cases hlt2 : k < x.n
  ·have hcell := Nodes.at_ (HN.out.below HB.out) hlt2
   obtain ⟨b', off', ha', _, m0, m1, m2, m3⟩ := hcell
   rw [ha] at ha'
   injection ha' with ha'
   injection ha' with e1 e2 _
   subst e1 e2
   have hltB := HR.out.lt
   have hltW := HW.out.lt
   go_wp2_with fail
   have XA := Kit.Row.new wr #[.int .i64 (ndAt x.nodes k).id, .int .i64 (ndAt x.nodes k).md, .int .i64 (ndAt x.nodes k).ct, .int .i64 (ndAt x.nodes k).ps] 60
   have hTA := Lib.hid (HT.out.below ((Below.refl _ _).alloc (Nat.le_refl _) (.cells #[.int .i64 (ndAt x.nodes k).id, .int .i64 (ndAt x.nodes k).md, .int .i64 (ndAt x.nodes k).ct, .int .i64 (ndAt x.nodes k).ps] 60)))
   have HR2 := Lib.hid (HR.out.alloc (.cells #[.int .i64 (ndAt x.nodes k).id, .int .i64 (ndAt x.nodes k).md, .int .i64 (ndAt x.nodes k).ct, .int .i64 (ndAt x.nodes k).ps] 60))
   have HW2 := Lib.hid (HW.out.alloc (.cells #[.int .i64 (ndAt x.nodes k).id, .int .i64 (ndAt x.nodes k).md, .int .i64 (ndAt x.nodes k).ct, .int .i64 (ndAt x.nodes k).ps] 60))
   have HB2 := Lib.hid (HB.out.alloc HB.out.size (.cells #[.int .i64 (ndAt x.nodes k).id, .int .i64 (ndAt x.nodes k).md, .int .i64 (ndAt x.nodes k).ct, .int .i64 (ndAt x.nodes k).ps] 60))
   obtain ⟨f, ef⟩ : ∃ f, f = Wm.say x.n (ndAt x.nodes k) := ⟨_, rfl⟩
   have kk := KSO.out k hlt2
   rw [← ef] at kk
   unfold Fr.val at kk
   have KK := Lib.hid kk
   have EF := Lib.hid ef
   clear kk ef
   generalize wr.alloc (.cells #[.int .i64 (ndAt x.nodes k).id, .int .i64 (ndAt x.nodes k).md, .int .i64 (ndAt x.nodes k).ct, .int .i64 (ndAt x.nodes k).ps] 60) = wv at *
   generalize wr.heap.size = N at *
   have x0 := XA.at_ 0 (.int .i64 (ndAt x.nodes k).id) rfl
   have x1 := XA.at_ 1 (.int .i64 (ndAt x.nodes k).md) rfl
   have x2 := XA.at_ 2 (.int .i64 (ndAt x.nodes k).ct) rfl
   have x3 := XA.at_ 3 (.int .i64 (ndAt x.nodes k).ps) rfl
   have c0 := HR2.out.at_ 0 (.int .i64 x.n) rfl
   have ltv := HW2.out.lt
   have XX := Lib.hid XA
   have HA := Lib.hid (Below.refl wv.drew.heap.size wv.drew)
   clear m0 m1 m2 m3 HT HR HW HB XA
   refine wp_region_held_drew (S := (fun w' => w'.cell? ⟨B, 0, none⟩ = some (.int .i64 x.n) ∧ w'.cell? ⟨N, 0, none⟩ = some (.int .i64 (ndAt x.nodes k).id) ∧ w'.cell? ⟨N, 1, none⟩ = some (.int .i64 (ndAt x.nodes k).md) ∧ w'.cell? ⟨N, 2, none⟩ = some (.int .i64 (ndAt x.nodes k).ct) ∧ w'.cell? ⟨N, 3, none⟩ = some (.int .i64 (ndAt x.nodes k).ps))) (by kernel_rfl) ?_ (fun hHeld => ?_)
   ·go_keep
   refine Rgn.tk 0 rfl ?_
   try simp only [Act.put, Rgn.a, Rgn.b, Rgn.c]
   refine Rgn.tk 1 rfl ?_
   try simp only [Act.put, Rgn.a, Rgn.b, Rgn.c]
   refine Rgn.tk 2 rfl ?_
   try simp only [Act.put, Rgn.a, Rgn.b, Rgn.c]
   refine Rgn.tk 3 rfl ?_
   try simp only [Act.put, Rgn.a, Rgn.b, Rgn.c]
   refine Rgn.tk 4 rfl ?_
   try simp only [Act.put, Rgn.a, Rgn.b, Rgn.c]
   refine Rgn.tk 5 rfl ?_
   try simp only [Act.put, Rgn.a, Rgn.b, Rgn.c]
   refine Rgn.two 6 10 rfl rfl (by kernel_rfl) (fun K hK => ?_) (fun K hK => ?_)
   ·go_simp
    refine (KK.out _).mono ?_
    rintro e wn ⟨rfl, bn⟩
    replace HA := Lib.hid (HA.out.trans (bn.mono HA.out.size))
    clear bn
    clear c0 x0 x1 x2 x3
    have c0 := (HR2.out.drew.below HA.out).at_ 0 (.int .i64 x.n) rfl
    have x0 := (XX.out.drew.below HA.out).at_ 0 (.int .i64 (ndAt x.nodes k).id) rfl
    have x1 := (XX.out.drew.below HA.out).at_ 1 (.int .i64 (ndAt x.nodes k).md) rfl
    have x2 := (XX.out.drew.below HA.out).at_ 2 (.int .i64 (ndAt x.nodes k).ct) rfl
    have x3 := (XX.out.drew.below HA.out).at_ 3 (.int .i64 (ndAt x.nodes k).ps) rfl
    try go_simp
    refine hK.out _ _ ?_ (fun hHeld => ?_)
    ·first | go_keep | ((try dsimp only); (repeat' apply And.intro) <;> first | assumption | go_simp)
    clear hK K
    try simp only [Act.put, Rgn.a, Rgn.b, Rgn.c]
    refine Rgn.tk 7 rfl ?_
    try simp only [Act.put, Rgn.a, Rgn.b, Rgn.c]
    refine Rgn.tk 8 rfl ?_
    try simp only [Act.put, Rgn.a, Rgn.b, Rgn.c]
    refine Rgn.tk 9 rfl ?_
    try simp only [Act.put, Rgn.a, Rgn.b, Rgn.c]
    refine Rgn.one 10 rfl (by kernel_rfl) (fun K hK => ?_)
    go_simp
    have hM := HA.out.size
    have FF := Lib.hid (Kit.Row.new wn #[.int .i64 0, .int .i64 0] 45)
    replace HA := Lib.hid (HA.out.alloc HA.out.size (.cells #[.int .i64 0, .int .i64 0] 45))
    clear c0 x0 x1 x2 x3
    have c0 := (HR2.out.drew.below HA.out).at_ 0 (.int .i64 x.n) rfl
    have x0 := (XX.out.drew.below HA.out).at_ 0 (.int .i64 (ndAt x.nodes k).id) rfl
    have x1 := (XX.out.drew.below HA.out).at_ 1 (.int .i64 (ndAt x.nodes k).md) rfl
    have x2 := (XX.out.drew.below HA.out).at_ 2 (.int .i64 (ndAt x.nodes k).ct) rfl
    have x3 := (XX.out.drew.below HA.out).at_ 3 (.int .i64 (ndAt x.nodes k).ps) rfl
    generalize wn.heap.size = M at FF hM ⊢
    generalize wn.alloc (.cells #[.int .i64 0, .int .i64 0] 45) = wz at *
    have g0 := FF.out.at_ 0 (.int .i64 0) rfl
    have z0 := FF.out.free 0 (by simp)
    have g1 := FF.out.at_ 1 (.int .i64 0) rfl
    have z1 := FF.out.free 1 (by simp)
    refine hK.out _ _ ?_ (fun hHeld => ?_)
    ·first | go_keep | ((try dsimp only); (repeat' apply And.intro) <;> first | assumption | go_simp)
    clear hK K
    try simp only [Act.put, Rgn.a, Rgn.b, Rgn.c]
    refine Rgn.one 11 rfl (by kernel_rfl) (fun K hK => ?_)
    go_simp
    replace HA := Lib.hid ((HA.out.setCell (p := ⟨M, 0, none⟩) (hM) (.int .i64 f.k)).setCell (p := ⟨M, 1, none⟩) (hM) (.int .i64 f.i))
    replace FF := Lib.hid (((FF.out.set 0 (.int .i64 f.k) (by simp)).set 1 (.int .i64 f.i) (by simp)).cast (show _ = [.int .i64 f.k, .int .i64 f.i] from rfl))
    clear c0 x0 x1 x2 x3
    have c0 := (HR2.out.drew.below HA.out).at_ 0 (.int .i64 x.n) rfl
    have x0 := (XX.out.drew.below HA.out).at_ 0 (.int .i64 (ndAt x.nodes k).id) rfl
    have x1 := (XX.out.drew.below HA.out).at_ 1 (.int .i64 (ndAt x.nodes k).md) rfl
    have x2 := (XX.out.drew.below HA.out).at_ 2 (.int .i64 (ndAt x.nodes k).ct) rfl
    have x3 := (XX.out.drew.below HA.out).at_ 3 (.int .i64 (ndAt x.nodes k).ps) rfl
    generalize ((wz.setCell ⟨M, 0, none⟩ (.int .i64 f.k)).setCell ⟨M, 1, none⟩ (.int .i64 f.i)) = wy at *
    clear g0 g1 z0 z1
    refine hK.out _ _ ?_ (fun hHeld => ?_)
    ·first | go_keep | ((try dsimp only); (repeat' apply And.intro) <;> first | assumption | go_simp)
    clear hK K
    try simp only [Act.put, Rgn.a, Rgn.b, Rgn.c]
    refine Rgn.tk 12 rfl ?_
    try simp only [Act.put, Rgn.a, Rgn.b, Rgn.c]
    refine wpAnyH_done (by kernel_rfl) ?_ _
    clear c0 x0 x1 x2 x3
    have TT := Lib.hid (hTA.out.drew.below HA.out)
    have R5 := Lib.hid (HR2.out.drew.below HA.out)
    have W5 := Lib.hid (HW2.out.drew.below HA.out)
    have H5 := Lib.hid (HB2.out.drew.trans (HA.out.mono HB2.out.drew.size))
    clear HA XX HR2 HW2 HB2 hTA KK hM
    have kl := KLI.out k f
    obtain ⟨t0, et0⟩ : ∃ s, s = (if Vw.fnode x.c x.v k then ch.b0 else Wire.put f) := ⟨_, rfl⟩
    obtain ⟨t1, et1⟩ : ∃ s, s = (if Vw.fnode x.c x.v k then ch.b1 else Wire.put f) := ⟨_, rfl⟩
    rw [← et0, ← et1] at kl
    have KLK := Lib.hid kl
    have ET0 := Lib.hid et0
    have ET1 := Lib.hid et1
    clear kl et0 et1
    go_wp2_with fail
    have c2 := R5.out.at_ 2 (.int .i64 x.c) rfl
    have c3 := R5.out.at_ 3 (.int .i64 x.v) rfl
    have c30 := R5.out.at_ 30 (.string ch.b0) rfl
    have c31 := R5.out.at_ 31 (.string ch.b1) rfl
    have c32 := R5.out.at_ 32 (.slice ch.at_ ch.np ch.cap) rfl
    have c33 := R5.out.at_ 33 (.int .i64 ch.link) rfl
    have y0 := FF.out.at_ 0 (.int .i64 f.k) rfl
    have y1 := FF.out.at_ 1 (.int .i64 f.i) rfl
    refine wp_region_held_drew (S := (fun w' => w'.cell? ⟨B, 2, none⟩ = some (.int .i64 x.c) ∧ w'.cell? ⟨B, 3, none⟩ = some (.int .i64 x.v) ∧ w'.cell? ⟨B, 30, none⟩ = some (.string ch.b0) ∧ w'.cell? ⟨B, 31, none⟩ = some (.string ch.b1) ∧ w'.cell? ⟨B, 32, none⟩ = some (.slice ch.at_ ch.np ch.cap) ∧ w'.cell? ⟨B, 33, none⟩ = some (.int .i64 ch.link) ∧ w'.cell? ⟨M, 0, none⟩ = some (.int .i64 f.k) ∧ w'.cell? ⟨M, 1, none⟩ = some (.int .i64 f.i))) (by kernel_rfl) ?_ (fun hHeld => ?_)
    ·go_keep
    refine Rgn.tk 0 rfl ?_
    try simp only [Act.put, Rgn.a, Rgn.b, Rgn.c]
    refine Rgn.tk 1 rfl ?_
    try simp only [Act.put, Rgn.a, Rgn.b, Rgn.c]
    refine Rgn.tk 2 rfl ?_
    try simp only [Act.put, Rgn.a, Rgn.b, Rgn.c]
    refine Rgn.tk 3 rfl ?_
    try simp only [Act.put, Rgn.a, Rgn.b, Rgn.c]
    refine Rgn.tk 4 rfl ?_
    try simp only [Act.put, Rgn.a, Rgn.b, Rgn.c]
    refine Rgn.tk 5 rfl ?_
    try simp only [Act.put, Rgn.a, Rgn.b, Rgn.c]
    refine Rgn.tk 6 rfl ?_
    try simp only [Act.put, Rgn.a, Rgn.b, Rgn.c]
    refine Rgn.tk 7 rfl ?_
    try simp only [Act.put, Rgn.a, Rgn.b, Rgn.c]
    refine Rgn.tk 8 rfl ?_
    try simp only [Act.put, Rgn.a, Rgn.b, Rgn.c]
    refine Rgn.tk 9 rfl ?_
    try simp only [Act.put, Rgn.a, Rgn.b, Rgn.c]
    refine Rgn.tk 10 rfl ?_
    try simp only [Act.put, Rgn.a, Rgn.b, Rgn.c]
    refine Rgn.tk 12 rfl ?_
    try simp only [Act.put, Rgn.a, Rgn.b, Rgn.c]
    refine Rgn.one 11 rfl (by kernel_rfl) (fun K hK => ?_)
    go_simp
    refine (KLK.out _).mono ?_
    rintro e wm ⟨rfl, bm⟩
    replace TT := Lib.hid (TT.out.drew.below bm)
    replace R5 := Lib.hid (R5.out.drew.below bm)
    replace W5 := Lib.hid (W5.out.drew.below bm)
    replace FF := Lib.hid (FF.out.drew.below bm)
    replace H5 := Lib.hid (H5.out.drew.trans (bm.mono H5.out.drew.size))
    clear bm
    clear c2 c3 c30 c31 c32 c33 y0 y1
    have c2 := R5.out.at_ 2 (.int .i64 x.c) rfl
    have c3 := R5.out.at_ 3 (.int .i64 x.v) rfl
    have c30 := R5.out.at_ 30 (.string ch.b0) rfl
    have c31 := R5.out.at_ 31 (.string ch.b1) rfl
    have c32 := R5.out.at_ 32 (.slice ch.at_ ch.np ch.cap) rfl
    have c33 := R5.out.at_ 33 (.int .i64 ch.link) rfl
    have y0 := FF.out.at_ 0 (.int .i64 f.k) rfl
    have y1 := FF.out.at_ 1 (.int .i64 f.i) rfl
    try go_simp
    refine hK.out _ _ ?_ (fun hHeld => ?_)
    ·first | go_keep | ((try dsimp only); (repeat' apply And.intro) <;> first | assumption | go_simp)
    clear hK K
    try simp only [Act.put, Rgn.a, Rgn.b, Rgn.c]
    refine wpAnyH_done (by kernel_rfl) ?_ _
    clear c2 c3 c30 c31 c32 c33 y0 y1
    go_wp2_with fail
    go_loopw [43] (fun vi wq => ((vi = .int .i64 0 ∧ Hid (Two wq (w.heap.size + 1) v0 v1 (k) (k) (sp x ch.b0 (k)) (sp x ch.b1 (k))) ∧ Hid (Kit.Row wq w.heap.size [v0, v1])) ∨ (∃ a0, vi = .int .i64 1 ∧ Hid (Two wq (w.heap.size + 1) a0 v1 (k + 1) (k) (sp x ch.b0 (k + 1)) (sp x ch.b1 (k))) ∧ Hid (Kit.Row wq w.heap.size [a0, v1])) ∨ (∃ a0 a1, vi = .int .i64 2 ∧ Hid (Two wq (w.heap.size + 1) a0 a1 (k + 1) (k + 1) (sp x ch.b0 (k + 1)) (sp x ch.b1 (k + 1))) ∧ Hid (Kit.Row wq w.heap.size [a0, a1]))) ∧ Hid (Kit.Row wq B (cells x ch i0 i1 f0 f1)) ∧ Hid (Below w.heap.size w wq)) (fun vi _ => 2 - (intOf vi).toNat)
    case atStart => exact ⟨Or.inl ⟨rfl, TT, W5⟩, R5, H5⟩
    case round =>
     clear TT W5 R5 H5 FF
     obtain ⟨hc, R6, H6⟩ := hrel
     rcases hc with ⟨rfl, T6, W6⟩ | ⟨a0, rfl, T6, W6⟩ | ⟨a0, a1, rfl, T6, W6⟩
     ·have l0 := W6.out.at_ 0 v0 rfl
      have z0 := W6.out.free 0 (by simp)
      have jx := fun w => js0 (.string t0) (.string t1) w
      have hq := H6.out.size
      have hw := W6.out.lt
      go_wp2_with (at_builtin; go_loud (refine wpList_append_own_at _ rfl _ _ 107 rfl (w.heap.size + 1) 9 si (.string ⟨#[]⟩) 1 16 Tryz.underlying107 hsi hs0 hs1 hs2 rfl (by decide) _ _ _ rfl (T6.out.a.alloc _) ⟨wr.heap.size, 0, Option.none⟩ 1 1 [.string t0] rfl rfl ?c1 ?c2 ?c3 ?c4 ?c5 ?_))
      case c1 => exact cell_one_new _ _ _
      case c2 => intro u hu; simp at hu; subst hu; rfl
      case c3 => unfold maxLen; omega
      case c4 => omega
      case c5 => simp; omega
      intro v2 w3 hown2 hgrow _ hat
      obtain ⟨g2, cap2, rfl, _, _⟩ := hown2.form (by omega)
      have T7 := Lib.hid (T6.out.step0 hown2 hgrow hat)
      have b7 := grown_below T6.out.a (by omega) hgrow
      have R7 := Lib.hid (R6.out.kept b7 (by omega))
      have W7 := Lib.hid (W6.out.kept b7 (by omega))
      have H7 := Lib.hid (H6.out.trans (b7.mono (by omega)))
      clear l0 z0 jx hown2 hgrow hat b7 T6 R6 W6 H6
      have z0 := W7.out.free 0 (by simp)
      have l0 := W7.out.at_ 0 v0 rfl
      have T8 := Lib.hid (T7.out.set w.heap.size 0 (.slice (some ⟨g2, 0, none⟩) (k + 1) cap2) (by omega))
      have R8 := Lib.hid (R7.out.far w.heap.size 0 (.slice (some ⟨g2, 0, none⟩) (k + 1) cap2) (by omega))
      have W8 := Lib.hid ((W7.out.set 0 (.slice (some ⟨g2, 0, none⟩) (k + 1) cap2) (by simp)).cast (show _ = [.slice (some ⟨g2, 0, none⟩) (k + 1) cap2, v1] from rfl))
      have H8 : Hid (Below w.heap.size w (w3.setCell ⟨w.heap.size, 0, none⟩ (.slice (some ⟨g2, 0, none⟩) (k + 1) cap2))) := Lib.hid (H7.out.setCell (Nat.le_refl _) _)
      clear T7 R7 W7 H7
      go_wp2_with fail
      go_roundw
      case rel => exact ⟨Or.inr (Or.inl ⟨_, by go_num, Lib.hid ((show sp x ch.b0 (k + 1) = sp x ch.b0 k ++ [t0] from by rw [sp_succ, ET0.out, EF.out]) ▸ T8.out), W8⟩), R8, H8⟩
      case measure => simp [intOf]
     ·have l1 := W6.out.at_ 1 v1 rfl
      have z1 := W6.out.free 1 (by simp)
      have jx := fun w => js1 (.string t0) (.string t1) w
      have hq := H6.out.size
      have hw := W6.out.lt
      go_wp2_with (at_builtin; go_loud (refine wpList_append_own_at _ rfl _ _ 107 rfl (w.heap.size + 1) 9 si (.string ⟨#[]⟩) 1 16 Tryz.underlying107 hsi hs0 hs1 hs2 rfl (by decide) _ _ _ rfl (T6.out.b.alloc _) ⟨wr.heap.size, 0, Option.none⟩ 1 1 [.string t1] rfl rfl ?c1 ?c2 ?c3 ?c4 ?c5 ?_))
      case c1 => exact cell_one_new _ _ _
      case c2 => intro u hu; simp at hu; subst hu; rfl
      case c3 => unfold maxLen; omega
      case c4 => omega
      case c5 => simp; omega
      intro v2 w3 hown2 hgrow _ hat
      obtain ⟨g2, cap2, rfl, _, _⟩ := hown2.form (by omega)
      have T7 := Lib.hid (T6.out.step1 hown2 hgrow hat)
      have b7 := grown_below T6.out.b (by omega) hgrow
      have R7 := Lib.hid (R6.out.kept b7 (by omega))
      have W7 := Lib.hid (W6.out.kept b7 (by omega))
      have H7 := Lib.hid (H6.out.trans (b7.mono (by omega)))
      clear l1 z1 jx hown2 hgrow hat b7 T6 R6 W6 H6
      have z1 := W7.out.free 1 (by simp)
      have l1 := W7.out.at_ 1 v1 rfl
      have T8 := Lib.hid (T7.out.set w.heap.size 1 (.slice (some ⟨g2, 0, none⟩) (k + 1) cap2) (by omega))
      have R8 := Lib.hid (R7.out.far w.heap.size 1 (.slice (some ⟨g2, 0, none⟩) (k + 1) cap2) (by omega))
      have W8 := Lib.hid ((W7.out.set 1 (.slice (some ⟨g2, 0, none⟩) (k + 1) cap2) (by simp)).cast (show _ = [a0, .slice (some ⟨g2, 0, none⟩) (k + 1) cap2] from rfl))
      have H8 : Hid (Below w.heap.size w (w3.setCell ⟨w.heap.size, 1, none⟩ (.slice (some ⟨g2, 0, none⟩) (k + 1) cap2))) := Lib.hid (H7.out.setCell (Nat.le_refl _) _)
      clear T7 R7 W7 H7
      go_wp2_with fail
      go_roundw
      case rel => exact ⟨Or.inr (Or.inr ⟨a0, _, by go_num, Lib.hid ((show sp x ch.b1 (k + 1) = sp x ch.b1 k ++ [t1] from by rw [sp_succ, ET1.out, EF.out]) ▸ T8.out), W8⟩), R8, H8⟩
      case measure => simp [intOf]
     ·go_wp2_with fail
      go_roundw
      case rel => exact ⟨k + 1, by omega, by go_num, _, _, T6, R6, W6, H6⟩
      case measure => simp [intOf]; omega
   ·go_simp
    have hM : wv.drew.heap.size ≤ wv.heap.size := Nat.le_refl _
    have FF := Lib.hid (Kit.Row.new wv #[.int .i64 0, .int .i64 0] 45).drew
    replace HA : Hid (Below wv.drew.heap.size wv.drew (wv.alloc (.cells #[.int .i64 0, .int .i64 0] 45)).drew) := Lib.hid (HA.out.alloc HA.out.size (.cells #[.int .i64 0, .int .i64 0] 45))
    clear c0 x0 x1 x2 x3
    have c0 := (HR2.out.drew.below HA.out).at_ 0 (.int .i64 x.n) rfl
    have x0 := (XX.out.drew.below HA.out).at_ 0 (.int .i64 (ndAt x.nodes k).id) rfl
    have x1 := (XX.out.drew.below HA.out).at_ 1 (.int .i64 (ndAt x.nodes k).md) rfl
    have x2 := (XX.out.drew.below HA.out).at_ 2 (.int .i64 (ndAt x.nodes k).ct) rfl
    have x3 := (XX.out.drew.below HA.out).at_ 3 (.int .i64 (ndAt x.nodes k).ps) rfl
    generalize wv.heap.size = M at FF hM ⊢
    generalize (wv.alloc (.cells #[.int .i64 0, .int .i64 0] 45)).drew = wz at *
    refine hK.out _ _ ?_ (fun hHeld => ?_)
    ·first | go_keep | ((try dsimp only); (repeat' apply And.intro) <;> first | assumption | go_simp)
    clear hK K
    try simp only [Act.put, Rgn.a, Rgn.b, Rgn.c]
    refine Rgn.one 6 rfl (by kernel_rfl) (fun K hK => ?_)
    go_simp
    refine (KK.out _).mono ?_
    rintro e wn ⟨rfl, bn⟩
    replace HA := Lib.hid (HA.out.trans (bn.mono HA.out.size))
    replace FF := Lib.hid (FF.out.below bn)
    clear bn
    clear c0 x0 x1 x2 x3
    have c0 := (HR2.out.drew.below HA.out).at_ 0 (.int .i64 x.n) rfl
    have x0 := (XX.out.drew.below HA.out).at_ 0 (.int .i64 (ndAt x.nodes k).id) rfl
    have x1 := (XX.out.drew.below HA.out).at_ 1 (.int .i64 (ndAt x.nodes k).md) rfl
    have x2 := (XX.out.drew.below HA.out).at_ 2 (.int .i64 (ndAt x.nodes k).ct) rfl
    have x3 := (XX.out.drew.below HA.out).at_ 3 (.int .i64 (ndAt x.nodes k).ps) rfl
    try go_simp
    have g0 := FF.out.at_ 0 (.int .i64 0) rfl
    have z0 := FF.out.free 0 (by simp)
    have g1 := FF.out.at_ 1 (.int .i64 0) rfl
    have z1 := FF.out.free 1 (by simp)
    refine hK.out _ _ ?_ (fun hHeld => ?_)
    ·first | go_keep | ((try dsimp only); (repeat' apply And.intro) <;> first | assumption | go_simp)
    clear hK K
    try simp only [Act.put, Rgn.a, Rgn.b, Rgn.c]
    refine Rgn.tk 7 rfl ?_
    try simp only [Act.put, Rgn.a, Rgn.b, Rgn.c]
    refine Rgn.tk 8 rfl ?_
    try simp only [Act.put, Rgn.a, Rgn.b, Rgn.c]
    refine Rgn.tk 9 rfl ?_
    try simp only [Act.put, Rgn.a, Rgn.b, Rgn.c]
    refine Rgn.one 11 rfl (by kernel_rfl) (fun K hK => ?_)
    go_simp
    replace HA := Lib.hid ((HA.out.setCell (p := ⟨M, 0, none⟩) (hM) (.int .i64 f.k)).setCell (p := ⟨M, 1, none⟩) (hM) (.int .i64 f.i))
    replace FF := Lib.hid (((FF.out.set 0 (.int .i64 f.k) (by simp)).set 1 (.int .i64 f.i) (by simp)).cast (show _ = [.int .i64 f.k, .int .i64 f.i] from rfl))
    clear c0 x0 x1 x2 x3
    have c0 := (HR2.out.drew.below HA.out).at_ 0 (.int .i64 x.n) rfl
    have x0 := (XX.out.drew.below HA.out).at_ 0 (.int .i64 (ndAt x.nodes k).id) rfl
    have x1 := (XX.out.drew.below HA.out).at_ 1 (.int .i64 (ndAt x.nodes k).md) rfl
    have x2 := (XX.out.drew.below HA.out).at_ 2 (.int .i64 (ndAt x.nodes k).ct) rfl
    have x3 := (XX.out.drew.below HA.out).at_ 3 (.int .i64 (ndAt x.nodes k).ps) rfl
    generalize ((wn.setCell ⟨M, 0, none⟩ (.int .i64 f.k)).setCell ⟨M, 1, none⟩ (.int .i64 f.i)) = wy at *
    clear g0 g1 z0 z1
    refine hK.out _ _ ?_ (fun hHeld => ?_)
    ·first | go_keep | ((try dsimp only); (repeat' apply And.intro) <;> first | assumption | go_simp)
    clear hK K
    try simp only [Act.put, Rgn.a, Rgn.b, Rgn.c]
    refine Rgn.tk 12 rfl ?_
    try simp only [Act.put, Rgn.a, Rgn.b, Rgn.c]
    refine wpAnyH_done (by kernel_rfl) ?_ _
    clear c0 x0 x1 x2 x3
    have TT := Lib.hid (hTA.out.drew.below HA.out)
    have R5 := Lib.hid (HR2.out.drew.below HA.out)
    have W5 := Lib.hid (HW2.out.drew.below HA.out)
    have H5 := Lib.hid (HB2.out.drew.trans (HA.out.mono HB2.out.drew.size))
    clear HA XX HR2 HW2 HB2 hTA KK hM
    have kl := KLI.out k f
    obtain ⟨t0, et0⟩ : ∃ s, s = (if Vw.fnode x.c x.v k then ch.b0 else Wire.put f) := ⟨_, rfl⟩
    obtain ⟨t1, et1⟩ : ∃ s, s = (if Vw.fnode x.c x.v k then ch.b1 else Wire.put f) := ⟨_, rfl⟩
    rw [← et0, ← et1] at kl
    have KLK := Lib.hid kl
    have ET0 := Lib.hid et0
    have ET1 := Lib.hid et1
    clear kl et0 et1
    go_wp2_with fail
    have c2 := R5.out.at_ 2 (.int .i64 x.c) rfl
    have c3 := R5.out.at_ 3 (.int .i64 x.v) rfl
    have c30 := R5.out.at_ 30 (.string ch.b0) rfl
    have c31 := R5.out.at_ 31 (.string ch.b1) rfl
    have c32 := R5.out.at_ 32 (.slice ch.at_ ch.np ch.cap) rfl
    have c33 := R5.out.at_ 33 (.int .i64 ch.link) rfl
    have y0 := FF.out.at_ 0 (.int .i64 f.k) rfl
    have y1 := FF.out.at_ 1 (.int .i64 f.i) rfl
    refine wp_region_held_drew (S := (fun w' => w'.cell? ⟨B, 2, none⟩ = some (.int .i64 x.c) ∧ w'.cell? ⟨B, 3, none⟩ = some (.int .i64 x.v) ∧ w'.cell? ⟨B, 30, none⟩ = some (.string ch.b0) ∧ w'.cell? ⟨B, 31, none⟩ = some (.string ch.b1) ∧ w'.cell? ⟨B, 32, none⟩ = some (.slice ch.at_ ch.np ch.cap) ∧ w'.cell? ⟨B, 33, none⟩ = some (.int .i64 ch.link) ∧ w'.cell? ⟨M, 0, none⟩ = some (.int .i64 f.k) ∧ w'.cell? ⟨M, 1, none⟩ = some (.int .i64 f.i))) (by kernel_rfl) ?_ (fun hHeld => ?_)
    ·go_keep
    refine Rgn.tk 0 rfl ?_
    try simp only [Act.put, Rgn.a, Rgn.b, Rgn.c]
    refine Rgn.tk 1 rfl ?_
    try simp only [Act.put, Rgn.a, Rgn.b, Rgn.c]
    refine Rgn.tk 2 rfl ?_
    try simp only [Act.put, Rgn.a, Rgn.b, Rgn.c]
    refine Rgn.tk 3 rfl ?_
    try simp only [Act.put, Rgn.a, Rgn.b, Rgn.c]
    refine Rgn.tk 4 rfl ?_
    try simp only [Act.put, Rgn.a, Rgn.b, Rgn.c]
    refine Rgn.tk 5 rfl ?_
    try simp only [Act.put, Rgn.a, Rgn.b, Rgn.c]
    refine Rgn.tk 6 rfl ?_
    try simp only [Act.put, Rgn.a, Rgn.b, Rgn.c]
    refine Rgn.tk 7 rfl ?_
    try simp only [Act.put, Rgn.a, Rgn.b, Rgn.c]
    refine Rgn.tk 8 rfl ?_
    try simp only [Act.put, Rgn.a, Rgn.b, Rgn.c]
    refine Rgn.tk 9 rfl ?_
    try simp only [Act.put, Rgn.a, Rgn.b, Rgn.c]
    refine Rgn.tk 10 rfl ?_
    try simp only [Act.put, Rgn.a, Rgn.b, Rgn.c]
    refine Rgn.tk 12 rfl ?_
    try simp only [Act.put, Rgn.a, Rgn.b, Rgn.c]
    refine Rgn.one 11 rfl (by kernel_rfl) (fun K hK => ?_)
    go_simp
    refine (KLK.out _).mono ?_
    rintro e wm ⟨rfl, bm⟩
    replace TT := Lib.hid (TT.out.drew.below bm)
    replace R5 := Lib.hid (R5.out.drew.below bm)
    replace W5 := Lib.hid (W5.out.drew.below bm)
    replace FF := Lib.hid (FF.out.drew.below bm)
    replace H5 := Lib.hid (H5.out.drew.trans (bm.mono H5.out.drew.size))
    clear bm
    clear c2 c3 c30 c31 c32 c33 y0 y1
    have c2 := R5.out.at_ 2 (.int .i64 x.c) rfl
    have c3 := R5.out.at_ 3 (.int .i64 x.v) rfl
    have c30 := R5.out.at_ 30 (.string ch.b0) rfl
    have c31 := R5.out.at_ 31 (.string ch.b1) rfl
    have c32 := R5.out.at_ 32 (.slice ch.at_ ch.np ch.cap) rfl
    have c33 := R5.out.at_ 33 (.int .i64 ch.link) rfl
    have y0 := FF.out.at_ 0 (.int .i64 f.k) rfl
    have y1 := FF.out.at_ 1 (.int .i64 f.i) rfl
    try go_simp
    refine hK.out _ _ ?_ (fun hHeld => ?_)
    ·first | go_keep | ((try dsimp only); (repeat' apply And.intro) <;> first | assumption | go_simp)
    clear hK K
    try simp only [Act.put, Rgn.a, Rgn.b, Rgn.c]
    refine wpAnyH_done (by kernel_rfl) ?_ _
    clear c2 c3 c30 c31 c32 c33 y0 y1
    go_wp2_with fail
    go_loopw [43] (fun vi wq => ((vi = .int .i64 0 ∧ Hid (Two wq (w.heap.size + 1) v0 v1 (k) (k) (sp x ch.b0 (k)) (sp x ch.b1 (k))) ∧ Hid (Kit.Row wq w.heap.size [v0, v1])) ∨ (∃ a0, vi = .int .i64 1 ∧ Hid (Two wq (w.heap.size + 1) a0 v1 (k + 1) (k) (sp x ch.b0 (k + 1)) (sp x ch.b1 (k))) ∧ Hid (Kit.Row wq w.heap.size [a0, v1])) ∨ (∃ a0 a1, vi = .int .i64 2 ∧ Hid (Two wq (w.heap.size + 1) a0 a1 (k + 1) (k + 1) (sp x ch.b0 (k + 1)) (sp x ch.b1 (k + 1))) ∧ Hid (Kit.Row wq w.heap.size [a0, a1]))) ∧ Hid (Kit.Row wq B (cells x ch i0 i1 f0 f1)) ∧ Hid (Below w.heap.size w wq)) (fun vi _ => 2 - (intOf vi).toNat)
    case atStart => exact ⟨Or.inl ⟨rfl, TT, W5⟩, R5, H5⟩
    case round =>
     clear TT W5 R5 H5 FF
     obtain ⟨hc, R6, H6⟩ := hrel
     rcases hc with ⟨rfl, T6, W6⟩ | ⟨a0, rfl, T6, W6⟩ | ⟨a0, a1, rfl, T6, W6⟩
     ·have l0 := W6.out.at_ 0 v0 rfl
      have z0 := W6.out.free 0 (by simp)
      have jx := fun w => js0 (.string t0) (.string t1) w
      have hq := H6.out.size
      have hw := W6.out.lt
      go_wp2_with (at_builtin; go_loud (refine wpList_append_own_at _ rfl _ _ 107 rfl (w.heap.size + 1) 9 si (.string ⟨#[]⟩) 1 16 Tryz.underlying107 hsi hs0 hs1 hs2 rfl (by decide) _ _ _ rfl (T6.out.a.alloc _) ⟨wr.heap.size, 0, Option.none⟩ 1 1 [.string t0] rfl rfl ?c1 ?c2 ?c3 ?c4 ?c5 ?_))
      case c1 => exact cell_one_new _ _ _
      case c2 => intro u hu; simp at hu; subst hu; rfl
      case c3 => unfold maxLen; omega
      case c4 => omega
      case c5 => simp; omega
      intro v2 w3 hown2 hgrow _ hat
      obtain ⟨g2, cap2, rfl, _, _⟩ := hown2.form (by omega)
      have T7 := Lib.hid (T6.out.step0 hown2 hgrow hat)
      have b7 := grown_below T6.out.a (by omega) hgrow
      have R7 := Lib.hid (R6.out.kept b7 (by omega))
      have W7 := Lib.hid (W6.out.kept b7 (by omega))
      have H7 := Lib.hid (H6.out.trans (b7.mono (by omega)))
      clear l0 z0 jx hown2 hgrow hat b7 T6 R6 W6 H6
      have z0 := W7.out.free 0 (by simp)
      have l0 := W7.out.at_ 0 v0 rfl
      have T8 := Lib.hid (T7.out.set w.heap.size 0 (.slice (some ⟨g2, 0, none⟩) (k + 1) cap2) (by omega))
      have R8 := Lib.hid (R7.out.far w.heap.size 0 (.slice (some ⟨g2, 0, none⟩) (k + 1) cap2) (by omega))
      have W8 := Lib.hid ((W7.out.set 0 (.slice (some ⟨g2, 0, none⟩) (k + 1) cap2) (by simp)).cast (show _ = [.slice (some ⟨g2, 0, none⟩) (k + 1) cap2, v1] from rfl))
      have H8 : Hid (Below w.heap.size w (w3.setCell ⟨w.heap.size, 0, none⟩ (.slice (some ⟨g2, 0, none⟩) (k + 1) cap2))) := Lib.hid (H7.out.setCell (Nat.le_refl _) _)
      clear T7 R7 W7 H7
      go_wp2_with fail
      go_roundw
      case rel => exact ⟨Or.inr (Or.inl ⟨_, by go_num, Lib.hid ((show sp x ch.b0 (k + 1) = sp x ch.b0 k ++ [t0] from by rw [sp_succ, ET0.out, EF.out]) ▸ T8.out), W8⟩), R8, H8⟩
      case measure => simp [intOf]
     ·have l1 := W6.out.at_ 1 v1 rfl
      have z1 := W6.out.free 1 (by simp)
      have jx := fun w => js1 (.string t0) (.string t1) w
      have hq := H6.out.size
      have hw := W6.out.lt
      go_wp2_with (at_builtin; go_loud (refine wpList_append_own_at _ rfl _ _ 107 rfl (w.heap.size + 1) 9 si (.string ⟨#[]⟩) 1 16 Tryz.underlying107 hsi hs0 hs1 hs2 rfl (by decide) _ _ _ rfl (T6.out.b.alloc _) ⟨wr.heap.size, 0, Option.none⟩ 1 1 [.string t1] rfl rfl ?c1 ?c2 ?c3 ?c4 ?c5 ?_))
      case c1 => exact cell_one_new _ _ _
      case c2 => intro u hu; simp at hu; subst hu; rfl
      case c3 => unfold maxLen; omega
      case c4 => omega
      case c5 => simp; omega
      intro v2 w3 hown2 hgrow _ hat
      obtain ⟨g2, cap2, rfl, _, _⟩ := hown2.form (by omega)
      have T7 := Lib.hid (T6.out.step1 hown2 hgrow hat)
      have b7 := grown_below T6.out.b (by omega) hgrow
      have R7 := Lib.hid (R6.out.kept b7 (by omega))
      have W7 := Lib.hid (W6.out.kept b7 (by omega))
      have H7 := Lib.hid (H6.out.trans (b7.mono (by omega)))
      clear l1 z1 jx hown2 hgrow hat b7 T6 R6 W6 H6
      have z1 := W7.out.free 1 (by simp)
      have l1 := W7.out.at_ 1 v1 rfl
      have T8 := Lib.hid (T7.out.set w.heap.size 1 (.slice (some ⟨g2, 0, none⟩) (k + 1) cap2) (by omega))
      have R8 := Lib.hid (R7.out.far w.heap.size 1 (.slice (some ⟨g2, 0, none⟩) (k + 1) cap2) (by omega))
      have W8 := Lib.hid ((W7.out.set 1 (.slice (some ⟨g2, 0, none⟩) (k + 1) cap2) (by simp)).cast (show _ = [a0, .slice (some ⟨g2, 0, none⟩) (k + 1) cap2] from rfl))
      have H8 : Hid (Below w.heap.size w (w3.setCell ⟨w.heap.size, 1, none⟩ (.slice (some ⟨g2, 0, none⟩) (k + 1) cap2))) := Lib.hid (H7.out.setCell (Nat.le_refl _) _)
      clear T7 R7 W7 H7
      go_wp2_with fail
      go_roundw
      case rel => exact ⟨Or.inr (Or.inr ⟨a0, _, by go_num, Lib.hid ((show sp x ch.b1 (k + 1) = sp x ch.b1 k ++ [t1] from by rw [sp_succ, ET1.out, EF.out]) ▸ T8.out), W8⟩), R8, H8⟩
      case measure => simp [intOf]
     ·go_wp2_with fail
      go_roundw
      case rel => exact ⟨k + 1, by omega, by go_num, _, _, T6, R6, W6, H6⟩
      case measure => simp [intOf]; omega
  ·obtain rfl : k = x.n := by omega
   have s0 : ∀ s ∈ sp x ch.b0 x.n, s.size ≤ maxLen := sp_size x _ hb0 _
   have s1 : ∀ s ∈ sp x ch.b1 x.n, s.size ≤ maxLen := sp_size x _ hb1 _
   have KT0 := Lib.hid (fun W (h : Two W (w.heap.size + 1) v0 v1 x.n x.n (sp x ch.b0 x.n) (sp x ch.b1 x.n)) => take_text W (w.heap.size + 1) x.n v0 _ (sp_len x ch.b0 x.n) h.a s0 h3 h8)
   have KT1 := Lib.hid (fun W (h : Two W (w.heap.size + 1) v0 v1 x.n x.n (sp x ch.b0 x.n) (sp x ch.b1 x.n)) => take_text W (w.heap.size + 1) x.n v1 _ (sp_len x ch.b1 x.n) h.b s1 h3 h8)
   clear s0 s1
   have HB1 := Lib.hid (HB.out.mono (show base ≤ w.heap.size by omega))
   go_wp2_with fail
   go_loopw [57] (fun vi wq => ((vi = .int .i64 0 ∧ Hid (Kit.Row wq B (cells x ch i0 i1 f0 f1))) ∨ (∃ g0 k0, vi = .int .i64 1 ∧ Hid (Kit.Row wq B (cells x ch (.slice (some ⟨g0, 0, none⟩) x.n k0) i1 f0 f1)) ∧ Hid (wq.ownsRow w.heap.size 45 2 (.slice (some ⟨g0, 0, none⟩) x.n k0) x.n (Port.cells (Port.take (sp x ch.b0 x.n) x.n)))) ∨ (∃ g0 k0 g1 k1, vi = .int .i64 2 ∧ Hid (Kit.Row wq B (cells x ch (.slice (some ⟨g0, 0, none⟩) x.n k0) (.slice (some ⟨g1, 0, none⟩) x.n k1) f0 f1)) ∧ Hid (wq.ownsRow w.heap.size 45 2 (.slice (some ⟨g0, 0, none⟩) x.n k0) x.n (Port.cells (Port.take (sp x ch.b0 x.n) x.n))) ∧ Hid (wq.ownsRow w.heap.size 45 2 (.slice (some ⟨g1, 0, none⟩) x.n k1) x.n (Port.cells (Port.take (sp x ch.b1 x.n) x.n))))) ∧ Hid (Two wq (w.heap.size + 1) v0 v1 x.n x.n (sp x ch.b0 x.n) (sp x ch.b1 x.n)) ∧ Hid (Kit.Row wq w.heap.size [v0, v1]) ∧ Hid (Below base w wq)) (fun vi _ => 2 - (intOf vi).toNat)
   case atStart => exact ⟨Or.inl ⟨rfl, HR⟩, HT, HW, HB1⟩
   case round =>
    clear HR HT HW HB HB1
    obtain ⟨hc, T6, W6, H6⟩ := hrel
    rcases hc with ⟨rfl, R6⟩ | ⟨g0, k0, rfl, R6, O6⟩ | ⟨g0, k0, g1, k1, rfl, R6, O6, O7⟩
    ·skip
     have c0 := R6.out.at_ 0 (.int .i64 x.n) rfl
     have l0 := W6.out.at_ 0 v0 rfl
     go_wp2_with fail
     refine wp_region_held_drew (S := (fun w' => w'.cell? ⟨B, 0, none⟩ = some (.int .i64 x.n) ∧ w'.cell? ⟨w.heap.size, 0, none⟩ = some v0)) (by kernel_rfl) ?_ (fun hHeld => ?_)
     ·go_keep
     refine Rgn.tk 0 rfl ?_
     try simp only [Act.put, Rgn.a, Rgn.b, Rgn.c]
     refine Rgn.tk 1 rfl ?_
     try simp only [Act.put, Rgn.a, Rgn.b, Rgn.c]
     refine Rgn.tk 2 rfl ?_
     try simp only [Act.put, Rgn.a, Rgn.b, Rgn.c]
     refine Rgn.tk 3 rfl ?_
     try simp only [Act.put, Rgn.a, Rgn.b, Rgn.c]
     refine Rgn.tk 4 rfl ?_
     try simp only [Act.put, Rgn.a, Rgn.b, Rgn.c]
     refine Rgn.tk 5 rfl ?_
     try simp only [Act.put, Rgn.a, Rgn.b, Rgn.c]
     refine Rgn.tk 6 rfl ?_
     try simp only [Act.put, Rgn.a, Rgn.b, Rgn.c]
     refine Rgn.tk 7 rfl ?_
     try simp only [Act.put, Rgn.a, Rgn.b, Rgn.c]
     refine Rgn.tk 8 rfl ?_
     try simp only [Act.put, Rgn.a, Rgn.b, Rgn.c]
     refine Rgn.tk 9 rfl ?_
     try simp only [Act.put, Rgn.a, Rgn.b, Rgn.c]
     refine Rgn.tk 14 rfl ?_
     try simp only [Act.put, Rgn.a, Rgn.b, Rgn.c]
     refine Rgn.tk 15 rfl ?_
     try simp only [Act.put, Rgn.a, Rgn.b, Rgn.c]
     refine Rgn.one 10 rfl (by kernel_rfl) (fun K hK => ?_)
     go_simp
     refine (KT0.out _ T6.out.drew).mono ?_
     rintro e w3 ⟨v3, rfl, hown, b3⟩
     rw [Port.take_len] at hown
     obtain ⟨g0, k0, rfl, hg, _⟩ := hown.form (by omega)
     have hsz := H6.out.size
     have O7 : Hid (w3.ownsRow w.heap.size 45 2 (.slice (some ⟨g0, 0, none⟩) x.n k0) x.n (Port.cells (Port.take (sp x ch.b0 x.n) x.n))) := Lib.hid (Kit.own_weaken hown (by have := W6.out.lt; have := H6.out.drew.size; simp at this ⊢; omega))
     replace T6 := Lib.hid (T6.out.drew.below b3)
     replace R6 := Lib.hid (R6.out.drew.below b3)
     replace W6 := Lib.hid (W6.out.drew.below b3)
     replace H6 := Lib.hid (H6.out.drew.trans (b3.mono (Nat.le_trans (by omega) H6.out.drew.size)))
     clear b3 hown c0 l0
     have c0 := R6.out.at_ 0 (.int .i64 x.n) rfl
     have l0 := W6.out.at_ 0 v0 rfl
     have d0 := R6.out.at_ 34 i0 rfl
     have z0 := R6.out.free 34 (by simp [cells])
     go_simp
     refine hK.out _ _ ?_ (fun hHeld => ?_)
     ·first | go_keep | ((try dsimp only); (repeat' apply And.intro) <;> first | assumption | go_simp)
     clear hK K
     try simp only [Act.put, Rgn.a, Rgn.b, Rgn.c]
     refine Rgn.tk 11 rfl ?_
     try simp only [Act.put, Rgn.a, Rgn.b, Rgn.c]
     refine Rgn.tk 12 rfl ?_
     try simp only [Act.put, Rgn.a, Rgn.b, Rgn.c]
     refine Rgn.tk 13 rfl ?_
     try simp only [Act.put, Rgn.a, Rgn.b, Rgn.c]
     refine Rgn.tk 16 rfl ?_
     try simp only [Act.put, Rgn.a, Rgn.b, Rgn.c]
     refine Rgn.one 17 rfl (by kernel_rfl) (fun K hK => ?_)
     go_simp
     replace T6 := Lib.hid (T6.out.set B 34 (.slice (some ⟨g0, 0, none⟩) x.n k0) (by omega))
     replace W6 := Lib.hid (W6.out.far B 34 (.slice (some ⟨g0, 0, none⟩) x.n k0) (by omega))
     replace R6 := Lib.hid ((R6.out.set 34 (.slice (some ⟨g0, 0, none⟩) x.n k0) (by simp [cells])).cast (show _ = cells x ch (.slice (some ⟨g0, 0, none⟩) x.n k0) i1 f0 f1 from rfl))
     have Q0 := Lib.hid (ownsRow_setCell_below O7.out (a := ⟨B, 34, none⟩) ltB (.slice (some ⟨g0, 0, none⟩) x.n k0))
     have H9 : Hid (Below base w (w3.setCell ⟨B, 34, none⟩ (.slice (some ⟨g0, 0, none⟩) x.n k0))) := Lib.hid (H6.out.setCell hbB _)
     clear d0 z0 c0 l0 H6
     have c0 := R6.out.at_ 0 (.int .i64 x.n) rfl
     have l0 := W6.out.at_ 0 v0 rfl
     refine hK.out _ _ ?_ (fun hHeld => ?_)
     ·first | go_keep | ((try dsimp only); (repeat' apply And.intro) <;> first | assumption | go_simp)
     clear hK K
     try simp only [Act.put, Rgn.a, Rgn.b, Rgn.c]
     refine wpAnyH_done (by kernel_rfl) ?_ _
     clear c0 l0
     go_wp2_with fail
     go_roundw
     case rel => exact ⟨Or.inr (Or.inl ⟨g0, k0, by go_num, R6, Q0⟩), T6, W6, H9⟩
     case measure => simp [intOf]
    ·have O7 := O6
     have c0 := R6.out.at_ 0 (.int .i64 x.n) rfl
     have l0 := W6.out.at_ 1 v1 rfl
     go_wp2_with fail
     refine wp_region_held_drew (S := (fun w' => w'.cell? ⟨B, 0, none⟩ = some (.int .i64 x.n) ∧ w'.cell? ⟨w.heap.size, 1, none⟩ = some v1)) (by kernel_rfl) ?_ (fun hHeld => ?_)
     ·go_keep
     refine Rgn.tk 0 rfl ?_
     try simp only [Act.put, Rgn.a, Rgn.b, Rgn.c]
     refine Rgn.tk 1 rfl ?_
     try simp only [Act.put, Rgn.a, Rgn.b, Rgn.c]
     refine Rgn.tk 2 rfl ?_
     try simp only [Act.put, Rgn.a, Rgn.b, Rgn.c]
     refine Rgn.tk 3 rfl ?_
     try simp only [Act.put, Rgn.a, Rgn.b, Rgn.c]
     refine Rgn.tk 4 rfl ?_
     try simp only [Act.put, Rgn.a, Rgn.b, Rgn.c]
     refine Rgn.tk 5 rfl ?_
     try simp only [Act.put, Rgn.a, Rgn.b, Rgn.c]
     refine Rgn.tk 6 rfl ?_
     try simp only [Act.put, Rgn.a, Rgn.b, Rgn.c]
     refine Rgn.tk 7 rfl ?_
     try simp only [Act.put, Rgn.a, Rgn.b, Rgn.c]
     refine Rgn.tk 8 rfl ?_
     try simp only [Act.put, Rgn.a, Rgn.b, Rgn.c]
     refine Rgn.tk 9 rfl ?_
     try simp only [Act.put, Rgn.a, Rgn.b, Rgn.c]
     refine Rgn.tk 14 rfl ?_
     try simp only [Act.put, Rgn.a, Rgn.b, Rgn.c]
     refine Rgn.tk 15 rfl ?_
     try simp only [Act.put, Rgn.a, Rgn.b, Rgn.c]
     refine Rgn.one 10 rfl (by kernel_rfl) (fun K hK => ?_)
     go_simp
     refine (KT1.out _ T6.out.drew).mono ?_
     rintro e w3 ⟨v3, rfl, hown, b3⟩
     rw [Port.take_len] at hown
     obtain ⟨g1, k1, rfl, hg, _⟩ := hown.form (by omega)
     have hsz := H6.out.size
     have O8 : Hid (w3.ownsRow w.heap.size 45 2 (.slice (some ⟨g1, 0, none⟩) x.n k1) x.n (Port.cells (Port.take (sp x ch.b1 x.n) x.n))) := Lib.hid (Kit.own_weaken hown (by have := W6.out.lt; have := H6.out.drew.size; simp at this ⊢; omega))
     replace T6 := Lib.hid (T6.out.drew.below b3)
     replace R6 := Lib.hid (R6.out.drew.below b3)
     replace W6 := Lib.hid (W6.out.drew.below b3)
     replace H6 := Lib.hid (H6.out.drew.trans (b3.mono (Nat.le_trans (by omega) H6.out.drew.size)))
     replace O7 := Lib.hid (Kit.own_below O7.out.drew b3)
     clear b3 hown c0 l0
     have c0 := R6.out.at_ 0 (.int .i64 x.n) rfl
     have l0 := W6.out.at_ 1 v1 rfl
     have d0 := R6.out.at_ 35 i1 rfl
     have z0 := R6.out.free 35 (by simp [cells])
     go_simp
     refine hK.out _ _ ?_ (fun hHeld => ?_)
     ·first | go_keep | ((try dsimp only); (repeat' apply And.intro) <;> first | assumption | go_simp)
     clear hK K
     try simp only [Act.put, Rgn.a, Rgn.b, Rgn.c]
     refine Rgn.tk 11 rfl ?_
     try simp only [Act.put, Rgn.a, Rgn.b, Rgn.c]
     refine Rgn.tk 12 rfl ?_
     try simp only [Act.put, Rgn.a, Rgn.b, Rgn.c]
     refine Rgn.tk 13 rfl ?_
     try simp only [Act.put, Rgn.a, Rgn.b, Rgn.c]
     refine Rgn.tk 16 rfl ?_
     try simp only [Act.put, Rgn.a, Rgn.b, Rgn.c]
     refine Rgn.one 17 rfl (by kernel_rfl) (fun K hK => ?_)
     go_simp
     replace T6 := Lib.hid (T6.out.set B 35 (.slice (some ⟨g1, 0, none⟩) x.n k1) (by omega))
     replace W6 := Lib.hid (W6.out.far B 35 (.slice (some ⟨g1, 0, none⟩) x.n k1) (by omega))
     replace R6 := Lib.hid ((R6.out.set 35 (.slice (some ⟨g1, 0, none⟩) x.n k1) (by simp [cells])).cast (show _ = cells x ch (.slice (some ⟨g0, 0, none⟩) x.n k0) (.slice (some ⟨g1, 0, none⟩) x.n k1) f0 f1 from rfl))
     have Q0 := Lib.hid (ownsRow_setCell_below O7.out (a := ⟨B, 35, none⟩) ltB (.slice (some ⟨g1, 0, none⟩) x.n k1))
     have Q1 := Lib.hid (ownsRow_setCell_below O8.out (a := ⟨B, 35, none⟩) ltB (.slice (some ⟨g1, 0, none⟩) x.n k1))
     have H9 : Hid (Below base w (w3.setCell ⟨B, 35, none⟩ (.slice (some ⟨g1, 0, none⟩) x.n k1))) := Lib.hid (H6.out.setCell hbB _)
     clear d0 z0 c0 l0 H6
     have c0 := R6.out.at_ 0 (.int .i64 x.n) rfl
     have l0 := W6.out.at_ 1 v1 rfl
     refine hK.out _ _ ?_ (fun hHeld => ?_)
     ·first | go_keep | ((try dsimp only); (repeat' apply And.intro) <;> first | assumption | go_simp)
     clear hK K
     try simp only [Act.put, Rgn.a, Rgn.b, Rgn.c]
     refine wpAnyH_done (by kernel_rfl) ?_ _
     clear c0 l0
     go_wp2_with fail
     go_roundw
     case rel => exact ⟨Or.inr (Or.inr ⟨g0, k0, g1, k1, by go_num, R6, Q0, Q1⟩), T6, W6, H9⟩
     case measure => simp [intOf]
    ·go_wp2_with fail
     obtain ⟨A0, j0, e0, F0⟩ := frames_own O6.out
     obtain ⟨A1, j1, e1, F1⟩ := frames_own O7.out
     exact Go.Great.bodyPost_end0 rfl rfl ⟨rfl, _, _, _, _, by rw [← e0, ← e1]; exact R6.out, F0, F1, H6.out⟩
end Tk
end Go.Proofs.YtgiojagdmglinaaGreatDoor
