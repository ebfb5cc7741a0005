/-
  ViewLeft: the walk of the statement's own function.
-/
import Derived.Test.YtpbkoooljelhjaaVw8
import Derived.Test.YtpbkoooljelhjaaOp1
namespace Go.Proofs.Ytpbkoooljelhjaa.ViewLeft
set_option linter.unusedVariables false
set_option linter.unusedSimpArgs false
open Go.RowKit

set_option maxHeartbeats 400000 in
set_option maxRecDepth 100000 in
theorem walk0 (c v : Int) (A A2 : Option Addr) (n cap n2 cap2 : Nat) (w : World) (hn : 40 < n ∨ 40 < n2) (hm : n ≤ 9223372036854775807) (hm2 : n2 ≤ 9223372036854775807) :
    Calls Try.prog 6 #[.agg #[.int .i64 c, .int .i64 v], .slice A n cap, .slice A2 n2 cap2] w fun e w' => e = .returned (.bool true) ∧ Below w.heap.size w w' := by
  by_cases h1 : 40 < n
  · go_enter Try.func6, Try.ntmps6
    go_wp2_with fail
    refine (Vw.awake_calls _).mono ?_
    rintro e w1 ⟨rfl, b1⟩
    go_wp2_with fail
    go_ret
    exact ⟨rfl, Kit.chain ((Below.refl _ _).alloc (Nat.le_refl _) _) b1⟩
  · have h2 : 40 < n2 := by omega
    have h1' : n ≤ 40 := by omega
    clear hn h1
    go_enter Try.func6, Try.ntmps6
    go_wp2_with fail
    refine (Vw.awake_calls _).mono ?_
    rintro e w1 ⟨rfl, b1⟩
    go_wp2_with fail
    go_ret
    exact ⟨rfl, Kit.chain ((Below.refl _ _).alloc (Nat.le_refl _) _) b1⟩

set_option maxHeartbeats 2000000 in
set_option maxRecDepth 100000 in
theorem walk1 (c v : Int) (A A2 : Option Addr) (n cap n2 cap2 : Nat) (l m : List Nd) (w : World) (hl : Nodes w A n l) (hm : Nodes w A2 n2 m) (hn : n ≤ 40) (hn2 : n2 ≤ 40) :
    Calls Try.prog 6 #[.agg #[.int .i64 c, .int .i64 v], .slice A n cap, .slice A2 n2 cap2] w fun e w' => e = .returned (.bool true) ∧ Below w.heap.size w w' := by
  have b0 : Below w.heap.size w (w.alloc (.cells #[.int .i64 c, .int .i64 v] 35)) := (Below.refl w.heap.size w).alloc (Nat.le_refl _) _
  have k1 := Vw.vchanged_calls c v A A2 n cap n2 cap2 l m _ (hl.below b0) (hm.below b0) (by omega) (by omega)
  have k2 := fun W (hW : Below w.heap.size w W) => Vw.vactive_calls c v A n cap l W (hl.below hW) (by omega)
  have k3 := fun W (hW : Below w.heap.size w W) => Vw.vchanged_calls c v A A n cap n cap l l W (hl.below hW) (hl.below hW) (by omega) (by omega)
  have k4 := fun W (hW : Below w.heap.size w W) => Vw.vall_calls c v A2 n2 cap2 m W (hm.below hW) (by omega)
  rw [Vw.changed_self] at k3
  have hall := Vw.changed_all c v l m
  have hfl := Vw.changed_filter c v l m
  have hpl : (Vw.active c v l).length ≤ n := by rw [← hl.len]; exact Vw.places_len c v Vw.act l l.length
  rw [hl.len, hm.len] at hall
  have B0 := Lib.hid b0
  have HAll := Lib.hid hall
  clear hl hm b0 hall
  generalize Vw.active c v l = on at *
  generalize hq : (fun i => decide (m.length ≤ i) || !Vw.act i (m.getD i Nd.zero)) = q at *
  generalize hcl : Vw.changed c v l m = cl at *
  subst hfl
  generalize hal : Vw.all c v m = al at *
  have hcn : (on.filter q).length ≤ n := Nat.le_trans (List.length_filter_le q on) hpl
  clear hq hcl hal
  go_enter Try.func6, Try.ntmps6
  go_wp2_with fail
  refine k1.mono ?_
  rintro e w1 ⟨v1, rfl, hown1, b1⟩
  obtain ⟨A1, cap1, rfl, hi1⟩ := Vw.Ints.of_own hown1
  obtain ⟨hcc, hff⟩ := Kit.bcell b1
  have B1 := Lib.hid (Kit.chain B0.out b1)
  have c2 := k2 w1 B1.out
  have hz1 : w.heap.size < w1.heap.size := by have := b1.size; simp at this; omega
  have p0 : w1.cell? ⟨w.heap.size, 0, none⟩ = some (.int .i64 c) := by rw [hcc _ _ (by simp)]; go_simp
  have p1 : w1.cell? ⟨w.heap.size, 1, none⟩ = some (.int .i64 v) := by rw [hcc _ _ (by simp)]; go_simp
  have HI1 := Lib.hid hi1
  clear b1 k2 hown1 hcc hff hi1
  go_wp2_with fail
  refine c2.mono ?_
  rintro e w2 ⟨v2, rfl, hown2, b2⟩
  obtain ⟨Ao, capo, rfl, hi2⟩ := Vw.Ints.of_own hown2
  have q0 := Kit.cell_below b2 p0
  have q1 := Kit.cell_below b2 p1
  have B2 := Lib.hid (Kit.chain B1.out b2)
  have HI2 := Lib.hid hi2
  have HI1' := Lib.hid (HI1.out.below b2)
  clear b2 hown2 hi2 p0 p1 HI1
  go_wp2_with fail
  go_loopw [9, 10] (fun vn vi wr => ∃ i : Nat, i ≤ on.length ∧ vi = .int .i64 i ∧ vn = .int .i64 (((on.take i).filter q).length : Nat) ∧ Hid (Below w2.heap.size w2 wr)) (fun _ vi _ => on.length - (intOf vi).toNat)
  case atStart => exact ⟨0, by omega, rfl, rfl, Lib.hid (Below.refl _ _)⟩
  case round =>
    obtain ⟨i, hi, rfl, rfl, HB⟩ := hrel
    have hle := Vw.take_le q on i
    by_cases hlt : i < on.length
    · obtain ⟨x, hx⟩ : ∃ x, on[i]? = some x := ⟨_, List.getElem?_eq_getElem hlt⟩
      obtain ⟨b, off, rfl, hb, hrow⟩ := HI2.out.at_ (by omega)
      have m0 := Kit.cell_below HB.out (hrow i x hx)
      cases hqx : q x with
      | true =>
        obtain ⟨s1, s2⟩ := Vw.step_yes q on i x hx hqx
        have hlt2 := (List.getElem?_eq_some_iff.1 s2).1
        obtain ⟨b3, off3, rfl, hb3, hrow3⟩ := HI1'.out.at_ (by omega)
        have m1 := Kit.cell_below HB.out (hrow3 _ x s2)
        have S1 := Lib.hid s1
        clear s1 s2 hrow hrow3 hx
        generalize ((on.take i).filter q).length = nn at *
        go_wp2_with fail
        go_quiet (fail)
        go_wp2_with fail
        go_roundw
        case rel => exact ⟨i + 1, by omega, by go_num, by rw [S1.out]; go_num, Lib.hid (HB.out.trans ((Kit.below_drewN _ _).mono HB.out.size))⟩
        case measure => simp [intOf]; omega
      | false =>
        obtain ⟨s1, s2⟩ := Vw.step_no q on i x hx hqx
        have S1 := Lib.hid s1
        by_cases hlt2 : ((on.take i).filter q).length < (on.filter q).length
        · obtain ⟨y, hy⟩ : ∃ y, (on.filter q)[((on.take i).filter q).length]? = some y := ⟨_, List.getElem?_eq_getElem hlt2⟩
          obtain ⟨b3, off3, rfl, hb3, hrow3⟩ := HI1'.out.at_ (by omega)
          have m1 := Kit.cell_below HB.out (hrow3 _ y hy)
          have hne : ((y : Int) == (x : Int)) = false := by rw [beq_eq_false_iff_ne]; have := s2 y hy; omega
          clear s1 s2 hrow hrow3 hx hy
          generalize ((on.take i).filter q).length = nn at *
          go_wp2_with fail
          go_quiet (fail)
          go_wp2_with fail
          go_roundw
          case rel => exact ⟨i + 1, by omega, by go_num, by rw [S1.out], Lib.hid (HB.out.trans ((Kit.below_drewN _ _).mono HB.out.size))⟩
          case measure => simp [intOf]; omega
        · have hd : decide ((((on.take i).filter q).length : Int) < ((on.filter q).length : Int)) = false := decide_eq_false (by omega)
          have hge : (on.filter q).length ≤ ((on.take i).filter q).length := by omega
          have hd2 : decide (((on.take i).filter q).length < (on.filter q).length) = false := decide_eq_false (by omega)
          clear s1 s2 hrow hx hlt2
          generalize ((on.take i).filter q).length = nn at *
          go_wp2_with fail
          go_quiet (fail)
          go_wp2_with fail
          go_roundw
          case rel => exact ⟨i + 1, by omega, by go_num, by rw [S1.out], Lib.hid (HB.out.trans ((Kit.below_drewN _ _).mono HB.out.size))⟩
          case measure => simp [intOf]; omega
    · obtain rfl : i = on.length := by omega
      have ht : ((on.take on.length).filter q).length = (on.filter q).length := by rw [List.take_length]
      rw [ht]
      have r0 := Kit.cell_below HB.out q0
      have r1 := Kit.cell_below HB.out q1
      have BR := Lib.hid (Kit.chain B2.out HB.out)
      clear ht q0 q1 hle
      by_cases hnn : n2 < n
      · have hnn' : n2 < n := hnn

        go_wp2_with fail
        refine (Vw.awake_calls _).mono ?_
        rintro e w4 ⟨rfl, b4⟩
        have s0 := Kit.cell_below b4 r0
        have s1 := Kit.cell_below b4 r1
        have B4 := Lib.hid (Kit.chain BR.out b4)
        have c3 := k3 w4 B4.out
        clear b4 r0 r1 k3
        go_wp2_with fail
        refine c3.mono ?_
        rintro e w5 ⟨v5, rfl, hown5, b5⟩
        obtain ⟨A5, cap5, rfl, _⟩ := Vw.Ints.of_own hown5
        have t0 := Kit.cell_below b5 s0
        have t1 := Kit.cell_below b5 s1
        have B5 := Lib.hid (Kit.chain B4.out b5)
        clear b5 hown5 s0 s1
        go_wp2_with fail
        go_ret
        exact ⟨rfl, B5.out⟩
      · have hnn' : n ≤ n2 := by omega
        clear hnn
        go_wp2_with fail
        refine (Vw.awake_calls _).mono ?_
        rintro e w4 ⟨rfl, b4⟩
        have s0 := Kit.cell_below b4 r0
        have s1 := Kit.cell_below b4 r1
        have B4 := Lib.hid (Kit.chain BR.out b4)
        have c3 := k3 w4 B4.out
        clear b4 r0 r1 k3
        go_wp2_with fail
        refine c3.mono ?_
        rintro e w5 ⟨v5, rfl, hown5, b5⟩
        obtain ⟨A5, cap5, rfl, _⟩ := Vw.Ints.of_own hown5
        have t0 := Kit.cell_below b5 s0
        have t1 := Kit.cell_below b5 s1
        have B5 := Lib.hid (Kit.chain B4.out b5)
        clear b5 hown5 s0 s1
        have c4 := k4 w5 B5.out
        clear k4
        cases al with
        | false =>
          go_wp2_with fail
          refine c4.mono ?_
          rintro e w6 ⟨rfl, b6⟩
          go_wp2_with fail
          go_ret
          exact ⟨rfl, Kit.chain B5.out b6⟩
        | true =>
          have hnil : on.filter q = [] := HAll.out hnn' rfl
          have hz : (((on.filter q).length : Int) == 0) = true := by rw [hnil]; rfl
          clear hnil
          go_wp2_with fail
          refine c4.mono ?_
          rintro e w6 ⟨rfl, b6⟩
          go_wp2_with fail
          go_ret
          exact ⟨rfl, Kit.chain B5.out b6⟩

theorem walk (x v v2 : Value) {w : World} (w0 : Op.IsFault x) (w1 : Op.IsNodes w v) (w2 : Op.IsNodes w v2) (w' : World) (hw : w' = w := by rfl) :
    Calls Try.prog 6 #[x, v, v2] w fun e w' => e = .returned (.bool true) ∧ Below w.heap.size w w' := by
  obtain ⟨c, u, rfl, _⟩ := w0
  obtain ⟨A, n, cap, l, rfl, hm, hl, hf⟩ := w1
  obtain ⟨A2, n2, cap2, m, rfl, hm2, hl2, hf2⟩ := w2
  unfold maxLen at hm hm2
  by_cases h : n ≤ 40 ∧ n2 ≤ 40
  · exact walk1 c u A A2 n cap n2 cap2 l m w hl hl2 h.1 h.2
  · exact walk0 c u A A2 n cap n2 cap2 w (by omega) hm hm2
end Go.Proofs.Ytpbkoooljelhjaa.ViewLeft
