/-
  ViewModes: the walk of the statement's own function.
-/
import Derived.Test.YtpbkoooljelhjaaVw8
import Derived.Test.YtpbkoooljelhjaaOp1
import Derived.Deep.RegionHeld3
namespace Go.Proofs.Ytpbkoooljelhjaa.ViewModes
set_option linter.unusedVariables false
set_option linter.unusedSimpArgs false
open Go.RowKit

/-- How many of the first k nodes have a Mode that there is. -/
def many (l : List Nd) (k : Nat) : Nat := ((l.take k).filter fun x => decide (0 ≤ x.md) && decide (x.md ≤ 3)).length
theorem many_succ (l : List Nd) (k : Nat) (x : Nd) (h : l[k]? = Option.some x) : many l (k + 1) = many l k + if 0 ≤ x.md ∧ x.md ≤ 3 then 1 else 0 := by
  obtain ⟨hk, he⟩ := List.getElem?_eq_some_iff.1 h
  unfold many
  rw [List.take_succ_eq_append_getElem hk, List.filter_append, List.length_append, he]
  by_cases e : 0 ≤ x.md ∧ x.md ≤ 3
  · simp [e]
  · have : (decide (0 ≤ x.md) && decide (x.md ≤ 3)) = false := by
      rw [Bool.and_eq_false_iff, decide_eq_false_iff_not, decide_eq_false_iff_not]; omega
    rw [if_neg e, List.filter_cons_of_neg (by rw [this]; simp)]; rfl
theorem many_le (l : List Nd) (k : Nat) : many l k ≤ k := by
  unfold many
  have h1 := List.length_filter_le (fun x : Nd => decide (0 ≤ x.md) && decide (x.md ≤ 3)) (l.take k)
  have h2 : (l.take k).length ≤ k := List.length_take_le k l
  omega
theorem sum_all (l : List Nd) (k : Nat) (hk : k ≤ l.length) : Vw.cnt l 0 k + Vw.cnt l 1 k + Vw.cnt l 2 k + Vw.cnt l 3 k = many l k := by
  induction k with
  | zero => rfl
  | succ k ih =>
    have hkl : k < l.length := by omega
    have hx : l[k]? = Option.some l[k] := List.getElem?_eq_getElem hkl
    rw [Vw.cnt_succ l 0 k _ hx, Vw.cnt_succ l 1 k _ hx, Vw.cnt_succ l 2 k _ hx, Vw.cnt_succ l 3 k _ hx, many_succ l k _ hx, ← ih (by omega)]
    generalize l[k].md = m
    by_cases h : 0 ≤ m ∧ m ≤ 3
    · rcases (show m = 0 ∨ m = 1 ∨ m = 2 ∨ m = 3 by omega) with rfl | rfl | rfl | rfl <;> simp <;> omega
    · rw [if_neg (by omega), if_neg (by omega), if_neg (by omega), if_neg (by omega), if_neg h]; omega
theorem cnt_filter (l : List Nd) : Vw.cnt l 3 l.length = (l.filter fun x => x.md == 3).length := by unfold Vw.cnt; rw [List.take_length]
theorem active_len (l : List Nd) : ∀ k, k ≤ l.length → (Vw.places 0 0 Vw.act l k).length = Vw.cnt l 3 k := by
  intro k hk
  induction k with
  | zero => rfl
  | succ k ih =>
    have hkl : k < l.length := by omega
    have hx : l[k]? = Option.some l[k] := List.getElem?_eq_getElem hkl
    have hd : l.getD k Nd.zero = l[k] := by rw [List.getD_eq_getElem?_getD, hx]; rfl
    rw [Vw.places_succ, List.length_append, ih (by omega), Vw.cnt_succ l 3 k _ hx, hd]
    congr 1
    have hf : Vw.fnode 0 0 k = false := rfl
    rw [hf]
    by_cases e : l[k].md = 3
    · have : Vw.act k l[k] = true := by unfold Vw.act; rw [e]; rfl
      rw [this, if_pos e]; rfl
    · have : Vw.act k l[k] = false := by unfold Vw.act; simpa using e
      rw [this, if_neg e]; rfl
theorem all_iff (l : List Nd) : Vw.all 0 0 l = decide (Vw.cnt l 3 l.length = l.length) := by
  have h : ∀ k, k ≤ l.length → (Vw.places 0 0 (fun i x => !Vw.act i x) l k).length + Vw.cnt l 3 k = k := by
    intro k hk
    induction k with
    | zero => rfl
    | succ k ih =>
      have hkl : k < l.length := by omega
      have hx : l[k]? = Option.some l[k] := List.getElem?_eq_getElem hkl
      have hd : l.getD k Nd.zero = l[k] := by rw [List.getD_eq_getElem?_getD, hx]; rfl
      rw [Vw.places_succ, List.length_append, Vw.cnt_succ l 3 k _ hx, hd]
      have := ih (by omega)
      have hf : Vw.fnode 0 0 k = false := rfl
      rw [hf]
      by_cases e : l[k].md = 3
      · have : Vw.act k l[k] = true := by unfold Vw.act; rw [e]; rfl
        rw [this, if_pos e]; simp; omega
      · have : Vw.act k l[k] = false := by unfold Vw.act; simpa using e
        rw [this, if_neg e]; simp; omega
  have := h l.length (Nat.le_refl _)
  unfold Vw.all
  rw [Bool.eq_iff_iff, beq_iff_eq, decide_eq_true_iff]
  omega

set_option maxHeartbeats 1000000 in
set_option maxRecDepth 100000 in
theorem walk1 (A : Option Addr) (n cap : Nat) (l : List Nd) (w : World) (hl : Nodes w A n l) (hn : n ≤ 40) (hfit : ∀ x ∈ l, x.fits) :
    Calls Try.prog 7 #[.slice A n cap] w fun e w' => e = .returned (.bool true) ∧ Below w.heap.size w w' := by
  have k1 := Vw.vmodes_calls A n cap l w hl (by omega) hfit
  have k2 := fun W (hW : Below w.heap.size w W) => Vw.vactive_calls 0 0 A n cap l W (hl.below hW) (by omega)
  have k3 := fun W (hW : Below w.heap.size w W) => Vw.vall_calls 0 0 A n cap l W (hl.below hW) (by omega)
  simp only [Vw.modesV] at k1
  have hsum := sum_all l l.length (Nat.le_refl _)
  have hact : (Vw.active 0 0 l).length = Vw.cnt l 3 l.length := active_len l l.length (Nat.le_refl _)
  rw [all_iff l] at k3
  have hsl := many_le l l.length
  have h0 := Vw.cnt_le l 0 l.length
  have h1 := Vw.cnt_le l 1 l.length
  have h2 := Vw.cnt_le l 2 l.length
  have h3 := Vw.cnt_le l 3 l.length
  have hlen := hl.len
  rw [hlen] at h0 h1 h2 h3 hsl hsum hact k1 k3
  have HL := Lib.hid hl
  have HSum := Lib.hid hsum
  have HAct := Lib.hid hact
  have hm0 : ∀ k, k ≤ n → many l k ≤ many l n := by
    intro k hk
    unfold many
    have : l.take k = (l.take n).take k := by rw [List.take_take, Nat.min_eq_left hk]
    rw [this]
    exact List.Sublist.length_le ((List.take_sublist k (l.take n)).filter _)
  have HM := Lib.hid hm0
  clear hl hfit hlen hsum hact hm0
  generalize Vw.cnt l 0 n = q0 at *
  generalize Vw.cnt l 1 n = q1 at *
  generalize Vw.cnt l 2 n = q2 at *
  generalize Vw.cnt l 3 n = q3 at *
  generalize Vw.active 0 0 l = on at *
  go_enter Try.func7, Try.ntmps7
  go_wp2_with fail
  refine k1.mono ?_
  rintro e w1 ⟨rfl, b1⟩
  have B1 := Lib.hid b1
  clear b1
  go_wp2_with fail
  go_loop [4, 5] (fun vn vi => ∃ k : Nat, k ≤ n ∧ vi = .int .i64 k ∧ vn = .int .i64 (many l k : Nat)) (fun _ vi => n - (intOf vi).toNat)
  case atStart => exact ⟨0, by omega, rfl, rfl⟩
  case round =>
    obtain ⟨k, hk, rfl, rfl⟩ := hrel
    by_cases hlt : k < n
    · obtain ⟨b, off, rfl, hb, hrow⟩ := HL.out.row (by omega)
      have hkl : k < l.length := by rw [HL.out.len]; exact hlt
      obtain ⟨x, hx⟩ : ∃ x, l[k]? = Option.some x := ⟨_, List.getElem?_eq_getElem hkl⟩
      have m1 := (B1.out.cell (p := ⟨b, off + k * 4 + 1, none⟩) hb).trans (hrow k x hx).2.1
      have hz1 : b < w1.heap.size := Nat.lt_of_lt_of_le hb B1.out.size
      have S1 := Lib.hid (many_succ l k x hx)
      have hsk := many_le l k
      clear hrow hx
      by_cases g0 : 0 ≤ x.md
      · by_cases g3 : x.md ≤ 3
        · have hif : Hid (0 ≤ x.md ∧ x.md ≤ 3) := Lib.hid ⟨g0, g3⟩
          go_wp2_with fail
          go_round
          case rel => exact ⟨k + 1, by omega, by go_num, by rw [S1.out, if_pos hif.out]; go_num⟩
          case measure => simp [intOf]; omega
        · have hif : Hid (¬ (0 ≤ x.md ∧ x.md ≤ 3)) := Lib.hid (by omega)
          have g3' : 3 < x.md := by omega
          clear g3
          go_wp2_with fail
          go_round
          case rel => exact ⟨k + 1, by omega, by go_num, by rw [S1.out, if_neg hif.out]; rfl⟩
          case measure => simp [intOf]; omega
      · have hif : Hid (¬ (0 ≤ x.md ∧ x.md ≤ 3)) := Lib.hid (by omega)
        have g0' : x.md < 0 := by omega
        clear g0
        go_wp2_with fail
        go_round
        case rel => exact ⟨k + 1, by omega, by go_num, by rw [S1.out, if_neg hif.out]; rfl⟩
        case measure => simp [intOf]; omega
    · obtain rfl : k = n := by omega
      go_wp2_with fail
      have e0 : (w1.alloc (.cells #[.int .i64 q0, .int .i64 q1, .int .i64 q2, .int .i64 q3] 42)).cell? ⟨w1.heap.size, 0, none⟩ = Option.some (.int .i64 (q0 : Int)) := by go_simp
      have e1 : (w1.alloc (.cells #[.int .i64 q0, .int .i64 q1, .int .i64 q2, .int .i64 q3] 42)).cell? ⟨w1.heap.size, 1, none⟩ = Option.some (.int .i64 (q1 : Int)) := by go_simp
      have e2 : (w1.alloc (.cells #[.int .i64 q0, .int .i64 q1, .int .i64 q2, .int .i64 q3] 42)).cell? ⟨w1.heap.size, 2, none⟩ = Option.some (.int .i64 (q2 : Int)) := by go_simp
      have e3 : (w1.alloc (.cells #[.int .i64 q0, .int .i64 q1, .int .i64 q2, .int .i64 q3] 42)).cell? ⟨w1.heap.size, 3, none⟩ = Option.some (.int .i64 (q3 : Int)) := by go_simp
      have B2 : Hid (Below w.heap.size w (w1.alloc (.cells #[.int .i64 q0, .int .i64 q1, .int .i64 q2, .int .i64 q3] 42))) := Lib.hid (B1.out.alloc B1.out.size _)
      generalize (w1.alloc (.cells #[.int .i64 q0, .int .i64 q1, .int .i64 q2, .int .i64 q3] 42)) = W2 at *
      have hsk := many_le l k
      have es : ((many l k : Nat) : Int) = (q0 : Int) + (q1 : Int) + (q2 : Int) + (q3 : Int) := by have := HSum.out; omega
      rw [es]
      clear es
      have ea : ((q3 : Int) == (on.length : Int)) = true := by rw [beq_iff_eq]; have := HAct.out; omega
      have ew1 : IntKind.i64.wrap ((q0 : Int) + (q1 : Int)) = (q0 : Int) + (q1 : Int) := IntWalk.i64_in _ (by omega)
      have ew2 : IntKind.i64.wrap ((q0 : Int) + (q1 : Int) + (q2 : Int)) = (q0 : Int) + (q1 : Int) + (q2 : Int) := IntWalk.i64_in _ (by omega)
      have ew3 : IntKind.i64.wrap ((q0 : Int) + (q1 : Int) + (q2 : Int) + (q3 : Int)) = (q0 : Int) + (q1 : Int) + (q2 : Int) + (q3 : Int) := IntWalk.i64_in _ (by omega)
      go_region_held3 (fun w' => w'.cell? ⟨w1.heap.size, 0, none⟩ = Option.some (.int .i64 (q0 : Int)) ∧ w'.cell? ⟨w1.heap.size, 1, none⟩ = Option.some (.int .i64 (q1 : Int)) ∧ w'.cell? ⟨w1.heap.size, 2, none⟩ = Option.some (.int .i64 (q2 : Int)) ∧ w'.cell? ⟨w1.heap.size, 3, none⟩ = Option.some (.int .i64 (q3 : Int)))
        (go_keep)
        (first | (go_at_call 32; refine (Vw.awake_calls _).mono ?_; rintro e w2 ⟨rfl, b2⟩; have d0 := Kit.cell_below b2 e0; have d1 := Kit.cell_below b2 e1; have d2 := Kit.cell_below b2 e2; have d3 := Kit.cell_below b2 e3; have c2 := k2 w2 (B2.out.drew.trans (b2.mono B2.out.drew.size)); have B3 := Lib.hid (B2.out.drew.trans (b2.mono B2.out.drew.size)); clear b2) | (go_at_call 34; refine c2.mono ?_; rintro e w3 ⟨v3, rfl, hown3, b3⟩; obtain ⟨A3, cap3, rfl, _⟩ := Vw.Ints.of_own hown3; have f0 := Kit.cell_below b3 d0; have f1 := Kit.cell_below b3 d1; have f2 := Kit.cell_below b3 d2; have f3 := Kit.cell_below b3 d3; have c3 := k3 w3 (B3.out.trans (b3.mono B3.out.size)); have B4 := Lib.hid (B3.out.trans (b3.mono B3.out.size)); clear b3 hown3) | (go_at_call 35; refine c3.mono ?_; rintro e w4 ⟨rfl, b4⟩; have g0 := Kit.cell_below b4 f0; have g1 := Kit.cell_below b4 f1; have g2 := Kit.cell_below b4 f2; have g3 := Kit.cell_below b4 f3; have B5 := Lib.hid (B4.out.trans (b4.mono B4.out.size)); clear b4))
      have hfin : (decide (q3 = k) == ((q3 : Int) == (k : Int))) = true := by
        by_cases e : q3 = k
        · subst e; simp
        · have : ¬ (q3 : Int) = (k : Int) := by omega
          simp [e, this]
      have HFin := Lib.hid hfin
      clear hfin ew1 ew2 ew3
      go_wp2_with fail
      go_ret
      exact ⟨congrArg (fun b => Ending.returned (.bool b)) HFin.out, B5.out⟩

set_option maxHeartbeats 400000 in
set_option maxRecDepth 100000 in
theorem walk0 (A : Option Addr) (n cap : Nat) (w : World) (hn : 40 < n) (hm : n ≤ 9223372036854775807) :
    Calls Try.prog 7 #[.slice A n cap] w fun e w' => e = .returned (.bool true) ∧ Below w.heap.size w w' := by
  go_enter Try.func7, Try.ntmps7
  go_wp2_with fail
  refine (Vw.awake_calls _).mono ?_
  rintro e w1 ⟨rfl, b1⟩
  go_wp2_with fail
  go_ret
  exact ⟨rfl, b1⟩

theorem walk (v : Value) {w : World} (w0 : Op.IsNodes w v) (w' : World) (hw : w' = w := by rfl) :
    Calls Try.prog 7 #[v] w fun e w' => e = .returned (.bool true) ∧ Below w.heap.size w w' := by
  obtain ⟨A, n, cap, l, rfl, hm, hl, hf⟩ := w0
  by_cases h : n ≤ 40
  · exact walk1 A n cap l w hl h hf
  · exact walk0 A n cap w (by omega) (by unfold maxLen at hm; exact hm)
end Go.Proofs.Ytpbkoooljelhjaa.ViewModes
