/-
  The walks of the document's answer: daybreakref15.Node, daybreakref20, daybreakref17.Ints.
-/
import Derived.Test.YtpbkoooljelhjaaVw4
namespace Go.Proofs.Ytpbkoooljelhjaa
set_option linter.unusedVariables false
set_option linter.unusedSimpArgs false
open Go.RowKit

set_option maxHeartbeats 400000 in
set_option maxRecDepth 100000 in
theorem Vw.rnode_calls (c v i : Int) (w : World) :
    Calls Try.prog 94 #[.agg #[.int .i64 c, .int .i64 v], .int .i64 i] w fun e w' => e = .returned (.bool (c == 1 && v == i)) ∧ Below w.heap.size w w' := by
  go_enter Try.func94, Try.ntmps94
  go_wp2_with fail
  all_goals (go_ret; exact ⟨by simp_all, (Below.refl _ _).alloc (Nat.le_refl _) _⟩)

/-- Is one at a place Active, and correct? -/
def Vw.isB (c v : Int) (l : List Nd) (i : Nat) : Bool := decide (i < l.length) && (Vw.act i (l.getD i Nd.zero) && !Vw.fnode c v i)

set_option maxHeartbeats 400000 in
set_option maxRecDepth 100000 in
theorem Vw.ris_calls (c v : Int) (A : Option Addr) (n cap : Nat) (l : List Nd) (i : Nat) (w : World) (hl : Nodes w A n l) (hn : n ≤ 1000000) :
    Calls Try.prog 93 #[.agg #[.int .i64 c, .int .i64 v], .slice A n cap, .int .i64 (i : Int)] w fun e w' => e = .returned (.bool (Vw.isB c v l i)) ∧ Below w.heap.size w w' := by
  unfold Vw.isB
  rw [hl.len]
  by_cases hi : i < n
  · have hd : decide (i < n) = true := decide_eq_true hi
    rw [hd]
    clear hd
    obtain ⟨b, off, rfl, hb, hrow⟩ := hl.row (by omega)
    have hkl : i < l.length := by rw [hl.len]; omega
    obtain ⟨y, hy⟩ : ∃ y, l[i]? = some y := ⟨_, List.getElem?_eq_getElem hkl⟩
    have hyd : l.getD i Nd.zero = y := by rw [List.getD_eq_getElem?_getD, hy]; rfl
    rw [hyd]
    obtain ⟨r0, r1, r2, r3⟩ := hrow i y hy
    clear hrow hy hyd hl hkl r0 r2 r3
    have cf : ∀ W, Calls Try.prog 94 #[.agg #[.int .i64 c, .int .i64 v], .int .i64 (i : Int)] W fun e w' => e = .returned (.bool (Vw.fnode c v i)) ∧ Below W.heap.size W w' := fun W => Vw.rnode_calls c v i W
    generalize Vw.fnode c v i = q at *
    cases ha : Vw.act i y with
    | false =>
      have e1 : (y.md == 3) = false := ha
      clear ha
      go_enter Try.func93, Try.ntmps93
      go_wp2_with fail
      go_ret
      exact ⟨rfl, (Below.refl _ _).alloc (Nat.le_refl _) _⟩
    | true =>
      have e1 : (y.md == 3) = true := ha
      clear ha
      go_enter Try.func93, Try.ntmps93
      go_wp2_with fail
      refine (cf _).mono ?_
      rintro e w1 ⟨rfl, b1⟩
      go_wp2_with fail
      go_ret
      exact ⟨by simp, Kit.chain ((Below.refl _ _).alloc (Nat.le_refl _) _) b1⟩
  · have hd : decide (i < n) = false := decide_eq_false hi
    rw [hd]
    have hd2 : decide ((i : Int) < (n : Int)) = false := decide_eq_false (by omega)
    have hni : n ≤ i := by omega
    clear hd hi
    go_enter Try.func93, Try.ntmps93
    go_wp2_with fail
    go_ret
    exact ⟨rfl, (Below.refl _ _).alloc (Nat.le_refl _) _⟩

/-- Where two lists are gone through together: the same numbers? -/
def Vw.sameB (l m : List Nat) : Bool := l == m

set_option maxHeartbeats 400000 in
set_option maxRecDepth 100000 in
theorem Vw.rints_calls (A A2 : Option Addr) (n cap n2 cap2 : Nat) (l m : List Nat) (w : World) (hl : Vw.Ints w A n l) (hm : Vw.Ints w A2 n2 m) (hn : n ≤ 1000000) (hn2 : n2 ≤ 1000000) (he : l = m) :
    Calls Try.prog 39 #[.slice A n cap, .slice A2 n2 cap2] w fun e w' => e = .returned (.bool true) ∧ Below w.heap.size w w' := by
  subst he
  have hnn : n = n2 := hl.len.symm.trans hm.len
  subst hnn
  have HL := Lib.hid hl
  have HM := Lib.hid hm
  clear hl hm
  go_enter Try.func39, Try.ntmps39
  go_wp2_with fail
  go_loopw [5] (fun vi wr => ∃ k : Nat, k ≤ n ∧ vi = .int .i64 k ∧ Hid (Below w.heap.size w wr)) (fun vi _ => n - (intOf vi).toNat)
  case atStart => exact ⟨0, by omega, rfl, Lib.hid (Below.refl _ _)⟩
  case round =>
    obtain ⟨k, hk, rfl, HB⟩ := hrel
    by_cases hlt : k < n
    · obtain ⟨b, off, rfl, hb, hrow⟩ := HL.out.at_ (by omega)
      obtain ⟨b2, off2, rfl, hb2, hrow2⟩ := HM.out.at_ (by omega)
      have hkl : k < l.length := by rw [HL.out.len]; exact hlt
      obtain ⟨x, hx⟩ : ∃ x, l[k]? = some x := ⟨_, List.getElem?_eq_getElem hkl⟩
      have m0 := (HB.out.cell (p := ⟨b, off + k, none⟩) hb).trans (hrow k x hx)
      have m1 := (HB.out.cell (p := ⟨b2, off2 + k, none⟩) hb2).trans (hrow2 k x hx)
      clear hrow hrow2 hx
      go_wp2_with fail
      go_quiet (fail)
      go_wp2_with fail
      go_roundw
      case rel => exact ⟨k + 1, by omega, by go_num, Lib.hid (HB.out.trans ((Kit.below_drewN _ _).mono HB.out.size))⟩
      case measure => simp [intOf]; omega
    · obtain rfl : k = n := by omega
      go_wp2_with fail
      go_ret
      exact ⟨rfl, HB.out⟩

set_option maxHeartbeats 400000 in
set_option maxRecDepth 100000 in
theorem Vw.rall_calls (c v : Int) (A : Option Addr) (n cap : Nat) (l : List Nd) (w : World) (hl : Nodes w A n l) (hn : n ≤ 1000000) :
    Calls Try.prog 41 #[.agg #[.int .i64 c, .int .i64 v], .slice A n cap] w fun e w' => e = .returned (.bool (Vw.all c v l)) ∧ Below w.heap.size w w' := by
  have HL := Lib.hid hl
  have hfin : ∀ k, k ≤ n → (∀ j y, j < k → l[j]? = some y → (!Vw.fnode c v j && !Vw.act j y) = false) → Vw.places c v (fun i x => !Vw.act i x) l k = [] := by
    intro k hk h
    unfold Vw.places
    rw [List.filter_eq_nil_iff]
    intro i hi
    have hi' : i < k := by simpa using hi
    have hil : i < l.length := by rw [hl.len]; omega
    have := h i _ hi' (List.getElem?_eq_getElem hil)
    rw [List.getD_eq_getElem?_getD, List.getElem?_eq_getElem hil]
    simpa using this
  have hlen := hl.len
  have HF := Lib.hid hfin
  have HLn := Lib.hid hlen
  clear hl hfin hlen
  go_enter Try.func41, Try.ntmps41
  go_wp2_with fail
  go_loopw [5] (fun vi wr => ∃ k : Nat, k ≤ n ∧ vi = .int .i64 k ∧ wr.cell? ⟨w.heap.size, 0, none⟩ = some (.int .i64 c) ∧ wr.cell? ⟨w.heap.size, 1, none⟩ = some (.int .i64 v) ∧ Hid (∀ j y, j < k → l[j]? = some y → (!Vw.fnode c v j && !Vw.act j y) = false) ∧ Hid (Below w.heap.size w wr)) (fun vi _ => n - (intOf vi).toNat)
  case atStart => exact ⟨0, by omega, rfl, by go_simp, by go_simp, Lib.hid (fun j y h => absurd h (by omega)), Lib.hid ((Below.refl _ _).alloc (Nat.le_refl _) _)⟩
  case round =>
    obtain ⟨k, hk, rfl, c0, c1, HA, HB⟩ := hrel
    have hws : w.heap.size < wr.heap.size := World.block_lt_of_cell? wr ⟨w.heap.size, 0, none⟩ c0
    by_cases hlt : k < n
    · obtain ⟨b, off, rfl, hb, hrow⟩ := HL.out.row (by omega)
      have hkl : k < l.length := by rw [HL.out.len]; exact hlt
      obtain ⟨x, hx⟩ : ∃ x, l[k]? = some x := ⟨_, List.getElem?_eq_getElem hkl⟩
      have m1 := (HB.out.cell (p := ⟨b, off + k * 4 + 1, none⟩) hb).trans (hrow k x hx).2.1
      have HX := Lib.hid hx
      have cf : ∀ W, Calls Try.prog 94 #[.agg #[.int .i64 c, .int .i64 v], .int .i64 (k : Int)] W fun e w' => e = .returned (.bool (Vw.fnode c v k)) ∧ Below W.heap.size W w' := fun W => Vw.rnode_calls c v k W
      clear hrow hx
      cases hq : Vw.fnode c v k with
      | true =>
        have HQ := Lib.hid hq
        rw [hq] at cf
        clear hq
        go_wp2_with fail
        refine (cf _).mono ?_
        rintro e w1 ⟨rfl, b1⟩
        have d0 := Kit.cell_below b1 c0
        have d1 := Kit.cell_below b1 c1
        have B1 := Lib.hid (HB.out.trans (b1.mono HB.out.size))
        clear b1
        go_wp2_with fail
        go_roundw
        case rel => exact ⟨k + 1, by omega, by go_num, d0, d1, Lib.hid (fun j y hj hy => by
          by_cases e : j = k
          · subst e; rw [HQ.out]; rfl
          · exact HA.out j y (by omega) hy), B1⟩
        case measure => simp [intOf]; omega
      | false =>
        have HQ := Lib.hid hq
        rw [hq] at cf
        clear hq
        cases ha : Vw.act k x with
        | true =>
          have HAx := Lib.hid ha
          have e1 : (x.md != 3) = false := by rw [bne_eq_false_iff_eq]; exact eq_of_beq ha
          clear ha
          go_wp2_with fail
          refine (cf _).mono ?_
          rintro e w1 ⟨rfl, b1⟩
          have d0 := Kit.cell_below b1 c0
          have d1 := Kit.cell_below b1 c1
          have m2 := Kit.cell_below b1 m1
          have B1 := Lib.hid (HB.out.trans (b1.mono HB.out.size))
          clear b1 m1
          go_wp2_with fail
          go_roundw
          case rel => exact ⟨k + 1, by omega, by go_num, d0, d1, Lib.hid (fun j y hj hy => by
            by_cases e : j = k
            · subst e; rw [HX.out] at hy; injection hy with hy; rw [← hy, HAx.out]; simp
            · exact HA.out j y (by omega) hy), B1⟩
          case measure => simp [intOf]; omega
        | false =>
          have e1 : (x.md != 3) = true := by rw [bne_iff_ne]; intro h; unfold Vw.act at ha; rw [h] at ha; simp at ha
          have hres : Vw.all c v l = false := by
            unfold Vw.all
            have hin : k ∈ Vw.places c v (fun i x => !Vw.act i x) l l.length := by
              unfold Vw.places
              rw [List.mem_filter]
              refine ⟨by simpa using hkl, ?_⟩
              rw [List.getD_eq_getElem?_getD, HX.out, HQ.out]
              show (!false && !Vw.act k x) = true
              rw [ha]; rfl
            have : (Vw.places c v (fun i x => !Vw.act i x) l l.length).length ≠ 0 := fun h => by rw [List.eq_nil_of_length_eq_zero h] at hin; simp at hin
            simpa using this
          have HRes := Lib.hid hres
          clear ha hres
          go_wp2_with fail
          refine (cf _).mono ?_
          rintro e w1 ⟨rfl, b1⟩
          have m2 := Kit.cell_below b1 m1
          have B1 := Lib.hid (HB.out.trans (b1.mono HB.out.size))
          clear b1 m1
          go_wp2_with fail
          go_ret
          exact ⟨by rw [HRes.out]; rfl, B1.out⟩
    · obtain rfl : k = n := by omega
      have hres : Vw.all c v l = true := by
        unfold Vw.all
        rw [HLn.out, HF.out k (Nat.le_refl _) HA.out]
        rfl
      have HRes := Lib.hid hres
      clear hres
      go_wp2_with fail
      go_ret
      exact ⟨by rw [HRes.out]; rfl, HB.out⟩
end Go.Proofs.Ytpbkoooljelhjaa
