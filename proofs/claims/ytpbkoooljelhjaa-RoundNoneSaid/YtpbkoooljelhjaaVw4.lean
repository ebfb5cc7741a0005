/-
  The walks of package view, fourth part: Changed and Modes.
-/
import Derived.Test.YtpbkoooljelhjaaVw3
namespace Go.Proofs.Ytpbkoooljelhjaa
set_option linter.unusedVariables false
set_option linter.unusedSimpArgs false
open Go.RowKit

set_option maxHeartbeats 1000000 in
set_option maxRecDepth 100000 in
/-- The literal in Changed. -/
theorem Vw.changedone_calls (A : Option Addr) (n cap : Nat) (m : List Nd) (i : Nat) (x : Nd) (B : Nat) (w : World) (hm : Nodes w A n m) (hn : n ≤ 1000000) (hi : i ≤ 1000000)
    (h1 : w.cell? ⟨B, 0, none⟩ = some (.slice A n cap)) :
    Calls Try.prog 88 #[.int .i64 (i : Int), .agg #[.int .i64 x.id, .int .i64 x.md, .int .i64 x.ct, .int .i64 x.ps], .pointer (some ⟨B, 0, none⟩)] w
      fun e w' => e = .returned (.bool (Vw.act i x && (decide (m.length ≤ i) || !Vw.act i (m.getD i Nd.zero)))) ∧ Below w.heap.size w w' := by
  have hB := World.block_lt_of_cell? w ⟨B, 0, none⟩ h1
  have ca : ∀ W, Calls Try.prog 89 #[.int .i64 (i : Int), .agg #[.int .i64 x.id, .int .i64 x.md, .int .i64 x.ct, .int .i64 x.ps]] W fun e w' => e = .returned (.bool (Vw.act i x)) ∧ Below W.heap.size W w' := fun W => Vw.active_calls _ _ _ _ _ W
  rw [hm.len]
  cases ha : Vw.act i x with
  | false =>
    rw [ha] at ca
    clear ha
    go_enter Try.func88, Try.ntmps88
    go_wp2_with fail
    refine (ca _).mono ?_
    rintro e w1 ⟨rfl, b1⟩
    go_wp2_with fail
    go_ret
    exact ⟨rfl, Kit.chain ((Below.refl _ _).alloc (Nat.le_refl _) _) b1⟩
  | true =>
    rw [ha] at ca
    clear ha
    by_cases hin : n ≤ i
    · have hd : decide (n ≤ i) = true := decide_eq_true hin
      rw [hd]
      clear hd
      go_enter Try.func88, Try.ntmps88
      go_wp2_with fail
      refine (ca _).mono ?_
      rintro e w1 ⟨rfl, b1⟩
      obtain ⟨hcc, hff⟩ := Kit.bcell b1
      have B1 := Lib.hid (Kit.chain ((Below.refl _ _).alloc (Nat.le_refl _) _) b1)
      clear b1
      go_wp2_with fail
      go_ret
      exact ⟨rfl, B1.out⟩
    · have hd : decide (n ≤ i) = false := decide_eq_false hin
      rw [hd]
      clear hd
      obtain ⟨b, off, rfl, hb, hrow⟩ := hm.row (by omega)
      have hkl : i < m.length := by rw [hm.len]; omega
      obtain ⟨y, hy⟩ : ∃ y, m[i]? = some y := ⟨_, List.getElem?_eq_getElem hkl⟩
      have hyd : m.getD i Nd.zero = y := by rw [List.getD_eq_getElem?_getD, hy]; rfl
      rw [hyd]
      obtain ⟨r0, r1, r2, r3⟩ := hrow i y hy
      have cb : ∀ W, Calls Try.prog 89 #[.int .i64 (i : Int), .agg #[.int .i64 y.id, .int .i64 y.md, .int .i64 y.ct, .int .i64 y.ps]] W fun e w' => e = .returned (.bool (Vw.act i y)) ∧ Below W.heap.size W w' := fun W => Vw.active_calls _ _ _ _ _ W
      have hin' : i < n := by omega
      generalize Vw.act i y = q at *
      clear hrow hy hyd hm hin
      go_enter Try.func88, Try.ntmps88
      go_wp2_with fail
      refine (ca _).mono ?_
      rintro e w1 ⟨rfl, b1⟩
      have ba := Kit.chain ((Below.refl _ _).alloc (Nat.le_refl _) _) b1
      have h1' := Kit.cell_below ba h1
      have s0 := Kit.cell_below ba r0
      have s1 := Kit.cell_below ba r1
      have s2 := Kit.cell_below ba r2
      have s3 := Kit.cell_below ba r3
      have B1 := Lib.hid ba
      clear b1 ba r0 r1 r2 r3
      go_wp2_with fail
      refine (cb _).mono ?_
      rintro e w2 ⟨rfl, b2⟩
      have B2 := Lib.hid (Kit.chain B1.out b2)
      clear b2
      go_wp2_with fail
      all_goals (go_ret; exact ⟨by simp [show ¬ n ≤ i by omega], B2.out⟩)

set_option maxHeartbeats 400000 in
set_option maxRecDepth 100000 in
/-- view.Changed. -/
theorem Vw.vchanged_calls (c v : Int) (A A2 : Option Addr) (n cap n2 cap2 : Nat) (l m : List Nd) (w : World) (hl : Nodes w A n l) (hm : Nodes w A2 n2 m) (hn : n ≤ 1000000) (hn2 : n2 ≤ 1000000) :
    Calls Try.prog 33 #[.agg #[.int .i64 c, .int .i64 v], .slice A n cap, .slice A2 n2 cap2] w (Vw.Row w (Vw.changed c v l m)) := by
  have b0 : Below w.heap.size w ((w.alloc (.cells #[.int .i64 c, .int .i64 v] 35)).alloc (.cells #[.slice A2 n2 cap2] 36)) := ((Below.refl w.heap.size w).alloc (Nat.le_refl _) _).alloc (by simp) _
  have c1 := Vw.places_calls c v A n cap l 88 #[.pointer (some ⟨w.heap.size + 1, 0, none⟩)] (fun i x => Vw.act i x && (decide (m.length ≤ i) || !Vw.act i (m.getD i Nd.zero))) _ (hl.below b0) hn
    (Kit.enters Try.func88 (by kernel_rfl) rfl)
    (fun W i x hW hi => Vw.changedone_calls A2 n2 cap2 m i x (w.heap.size + 1) W (hm.below (Kit.chain b0 hW)) hn2 (by have := (List.getElem?_eq_some_iff.1 hi).1; rw [hl.len] at this; omega) (Kit.cell_below hW (by go_simp)))
  have B0 := Lib.hid b0
  have hlen := hl.len
  unfold Vw.changed
  rw [hlen]
  generalize Vw.places c v (fun i x => Vw.act i x && (decide (m.length ≤ i) || !Vw.act i (m.getD i Nd.zero))) l n = pl at *
  clear hl hm hlen b0
  go_enter Try.func33, Try.ntmps33
  go_wp2_with fail
  refine c1.mono ?_
  rintro e w1 ⟨v1, rfl, hown, b1⟩
  have B1 := Lib.hid (Kit.chain B0.out b1)
  have HO := Lib.hid (Kit.own_weaken hown B0.out.size)
  clear hown b1
  go_wp2_with fail
  go_ret
  exact ⟨_, rfl, HO.out, B1.out⟩

/-- The counts of modes of the first k nodes. -/
def Vw.cnt (l : List Nd) (m : Int) (k : Nat) : Nat := ((l.take k).filter fun x => x.md == m).length
theorem Vw.cnt_succ (l : List Nd) (m : Int) (k : Nat) (x : Nd) (h : l[k]? = some x) : Vw.cnt l m (k + 1) = Vw.cnt l m k + if x.md = m then 1 else 0 := by
  obtain ⟨hk, he⟩ := List.getElem?_eq_some_iff.1 h
  unfold Vw.cnt
  rw [List.take_succ_eq_append_getElem hk, List.filter_append, List.length_append, he]
  by_cases e : x.md = m
  · simp [e]
  · simp [e]
theorem Vw.cnt_le (l : List Nd) (m : Int) (k : Nat) : Vw.cnt l m k ≤ k := by
  unfold Vw.cnt
  have h1 := List.length_filter_le (fun x : Nd => x.md == m) (l.take k)
  have h2 : (l.take k).length ≤ k := List.length_take_le k l
  omega
/-- What Modes answers. -/
def Vw.modesV (l : List Nd) : Value := .agg #[.int .i64 (Vw.cnt l 0 l.length : Nat), .int .i64 (Vw.cnt l 1 l.length : Nat), .int .i64 (Vw.cnt l 2 l.length : Nat), .int .i64 (Vw.cnt l 3 l.length : Nat)]

set_option maxHeartbeats 1000000 in
set_option maxRecDepth 100000 in
/-- view.Modes. -/
theorem Vw.vmodes_calls (A : Option Addr) (n cap : Nat) (l : List Nd) (w : World) (hl : Nodes w A n l) (hn : n ≤ 1000000) (hfit : ∀ x ∈ l, x.fits) :
    Calls Try.prog 36 #[.slice A n cap] w fun e w' => e = .returned (Vw.modesV l) ∧ Below w.heap.size w w' := by
  have HL := Lib.hid hl
  have HF := Lib.hid hfit
  clear hl hfit
  go_enter Try.func36, Try.ntmps36
  go_wp2_with fail
  go_loopw [4, 7] (fun _ vi wr => ∃ k : Nat, k ≤ n ∧ vi = .int .i64 k ∧ wr.cell? ⟨w.heap.size, 0, none⟩ = some (.int .i64 (Vw.cnt l 0 k : Nat)) ∧ wr.cell? ⟨w.heap.size, 1, none⟩ = some (.int .i64 (Vw.cnt l 1 k : Nat)) ∧
    wr.cell? ⟨w.heap.size, 2, none⟩ = some (.int .i64 (Vw.cnt l 2 k : Nat)) ∧ wr.cell? ⟨w.heap.size, 3, none⟩ = some (.int .i64 (Vw.cnt l 3 k : Nat)) ∧
    wr.frozen? ⟨w.heap.size, 0, none⟩ = false ∧ wr.frozen? ⟨w.heap.size, 1, none⟩ = false ∧ wr.frozen? ⟨w.heap.size, 2, none⟩ = false ∧ wr.frozen? ⟨w.heap.size, 3, none⟩ = false ∧ Hid (Below w.heap.size w wr)) (fun _ vi _ => n - (intOf vi).toNat)
  case atStart => exact ⟨0, by omega, rfl, by go_simp; rfl, by go_simp; rfl, by go_simp; rfl, by go_simp; rfl, by go_simp, by go_simp, by go_simp, by go_simp, Lib.hid ((Below.refl _ _).alloc (Nat.le_refl _) _)⟩
  case round =>
    obtain ⟨k, hk, rfl, c0, c1, c2, c3, f0, f1, f2, f3, HB⟩ := hrel
    by_cases hlt : k < n
    · obtain ⟨b, off, rfl, hb, hrow⟩ := HL.out.row (by omega)
      have hkl : k < l.length := by rw [HL.out.len]; exact hlt
      obtain ⟨x, hx⟩ : ∃ x, l[k]? = some x := ⟨_, List.getElem?_eq_getElem hkl⟩
      obtain ⟨r0, r1, r2, r3⟩ := hrow k x hx
      have m0 := (HB.out.cell (p := ⟨b, off + k * 4, none⟩) hb).trans r0
      have m1 := (HB.out.cell (p := ⟨b, off + k * 4 + 1, none⟩) hb).trans r1
      have m2 := (HB.out.cell (p := ⟨b, off + k * 4 + 2, none⟩) hb).trans r2
      have m3 := (HB.out.cell (p := ⟨b, off + k * 4 + 3, none⟩) hb).trans r3
      have hws : w.heap.size < wr.heap.size := World.block_lt_of_cell? wr ⟨w.heap.size, 0, none⟩ c0
      have s0 := Lib.hid (Vw.cnt_succ l 0 k x hx)
      have s1 := Lib.hid (Vw.cnt_succ l 1 k x hx)
      have s2 := Lib.hid (Vw.cnt_succ l 2 k x hx)
      have s3 := Lib.hid (Vw.cnt_succ l 3 k x hx)
      have l0 := Vw.cnt_le l 0 k
      have l1 := Vw.cnt_le l 1 k
      have l2 := Vw.cnt_le l 2 k
      have l3 := Vw.cnt_le l 3 k
      have hf := HF.out x (List.mem_of_getElem? hx)
      obtain ⟨_, _, hf1, hf2⟩ := hf
      clear r0 r1 r2 r3 hrow hx
      obtain ⟨xi, xm, xc, xp⟩ := x
      by_cases hin : 0 ≤ xm ∧ xm < 4
      · obtain ⟨h0, h4⟩ := hin
        rcases (show xm = 0 ∨ xm = 1 ∨ xm = 2 ∨ xm = 3 by omega) with rfl | rfl | rfl | rfl
        · have hB2 : Below w.heap.size w ((wr.setCell ⟨w.heap.size, 0, none⟩ (.int .i64 ((Vw.cnt l 0 k : Nat) + 1 : Int))).alloc (.cells #[.int .i64 xi, .int .i64 0, .int .i64 xc, .int .i64 xp] 45)) := (HB.out.setCell (by simp) _).alloc (by rw [World.size_setCell]; exact HB.out.size) _
          have HB2 := Lib.hid hB2
          clear hB2
          go_wp2_with fail
          go_roundw
          case rel => exact ⟨k + 1, by omega, by go_num, by rw [s0.out, if_pos rfl]; go_simp; try go_num, by rw [s1.out, if_neg (by show ¬ (0 : Int) = 1; omega)]; go_simp; try exact c1, by rw [s2.out, if_neg (by show ¬ (0 : Int) = 2; omega)]; go_simp; try exact c2, by rw [s3.out, if_neg (by show ¬ (0 : Int) = 3; omega)]; go_simp; try exact c3, by go_simp, by go_simp, by go_simp, by go_simp, HB2⟩
          case measure => simp [intOf]; omega
        · have hB2 : Below w.heap.size w ((wr.setCell ⟨w.heap.size, 1, none⟩ (.int .i64 ((Vw.cnt l 1 k : Nat) + 1 : Int))).alloc (.cells #[.int .i64 xi, .int .i64 1, .int .i64 xc, .int .i64 xp] 45)) := (HB.out.setCell (by simp) _).alloc (by rw [World.size_setCell]; exact HB.out.size) _
          have HB2 := Lib.hid hB2
          clear hB2
          go_wp2_with fail
          go_roundw
          case rel => exact ⟨k + 1, by omega, by go_num, by rw [s0.out, if_neg (by show ¬ (1 : Int) = 0; omega)]; go_simp; try exact c0, by rw [s1.out, if_pos rfl]; go_simp; try go_num, by rw [s2.out, if_neg (by show ¬ (1 : Int) = 2; omega)]; go_simp; try exact c2, by rw [s3.out, if_neg (by show ¬ (1 : Int) = 3; omega)]; go_simp; try exact c3, by go_simp, by go_simp, by go_simp, by go_simp, HB2⟩
          case measure => simp [intOf]; omega
        · have hB2 : Below w.heap.size w ((wr.setCell ⟨w.heap.size, 2, none⟩ (.int .i64 ((Vw.cnt l 2 k : Nat) + 1 : Int))).alloc (.cells #[.int .i64 xi, .int .i64 2, .int .i64 xc, .int .i64 xp] 45)) := (HB.out.setCell (by simp) _).alloc (by rw [World.size_setCell]; exact HB.out.size) _
          have HB2 := Lib.hid hB2
          clear hB2
          go_wp2_with fail
          go_roundw
          case rel => exact ⟨k + 1, by omega, by go_num, by rw [s0.out, if_neg (by show ¬ (2 : Int) = 0; omega)]; go_simp; try exact c0, by rw [s1.out, if_neg (by show ¬ (2 : Int) = 1; omega)]; go_simp; try exact c1, by rw [s2.out, if_pos rfl]; go_simp; try go_num, by rw [s3.out, if_neg (by show ¬ (2 : Int) = 3; omega)]; go_simp; try exact c3, by go_simp, by go_simp, by go_simp, by go_simp, HB2⟩
          case measure => simp [intOf]; omega
        · have hB2 : Below w.heap.size w ((wr.setCell ⟨w.heap.size, 3, none⟩ (.int .i64 ((Vw.cnt l 3 k : Nat) + 1 : Int))).alloc (.cells #[.int .i64 xi, .int .i64 3, .int .i64 xc, .int .i64 xp] 45)) := (HB.out.setCell (by simp) _).alloc (by rw [World.size_setCell]; exact HB.out.size) _
          have HB2 := Lib.hid hB2
          clear hB2
          go_wp2_with fail
          go_roundw
          case rel => exact ⟨k + 1, by omega, by go_num, by rw [s0.out, if_neg (by show ¬ (3 : Int) = 0; omega)]; go_simp; try exact c0, by rw [s1.out, if_neg (by show ¬ (3 : Int) = 1; omega)]; go_simp; try exact c1, by rw [s2.out, if_neg (by show ¬ (3 : Int) = 2; omega)]; go_simp; try exact c2, by rw [s3.out, if_pos rfl]; go_simp; try go_num, by go_simp, by go_simp, by go_simp, by go_simp, HB2⟩
          case measure => simp [intOf]; omega
      · have hw : decide (IntKind.u64.wrap xm < 4) = false := by
          rw [decide_eq_false_iff_not, IntKind.wrap_u64]
          have e1 : xm ≤ 9223372036854775807 := hf2
          have e2 : -9223372036854775808 ≤ xm := hf1
          omega
        have hB2 : Below w.heap.size w (wr.alloc (.cells #[.int .i64 xi, .int .i64 xm, .int .i64 xc, .int .i64 xp] 45)) := HB.out.alloc HB.out.size _
        have HB2 := Lib.hid hB2
        have n0 : ¬ xm = 0 := by omega
        have n1 : ¬ xm = 1 := by omega
        have n2 : ¬ xm = 2 := by omega
        have n3 : ¬ xm = 3 := by omega
        have N0 := Lib.hid n0
        have N1 := Lib.hid n1
        have N2 := Lib.hid n2
        have N3 := Lib.hid n3
        clear hB2 hf1 hf2 hin n0 n1 n2 n3
        go_wp2_with fail
        go_roundw
        case rel => exact ⟨k + 1, by omega, by go_num, by rw [s0.out, if_neg N0.out]; go_simp; try exact c0, by rw [s1.out, if_neg N1.out]; go_simp; try exact c1, by rw [s2.out, if_neg N2.out]; go_simp; try exact c2, by rw [s3.out, if_neg N3.out]; go_simp; try exact c3, by go_simp, by go_simp, by go_simp, by go_simp, HB2⟩
        case measure => simp [intOf]; omega
    · obtain rfl : k = n := by omega
      have hln := HL.out.len
      have HLn := Lib.hid hln
      clear hln
      have hws : w.heap.size < wr.heap.size := World.block_lt_of_cell? wr ⟨w.heap.size, 0, none⟩ c0
      go_wp2_with fail
      refine bodyPost_ret (v := Vw.modesV l) (by simp [results, Try.results36, go_sem, Vw.modesV, HLn.out, c0, c1, c2, c3]) rfl ⟨rfl, ?_⟩
      exact (((HB.out.setCell (by simp) _).setCell (by simp) _).setCell (by simp) _).setCell (by simp) _
end Go.Proofs.Ytpbkoooljelhjaa
