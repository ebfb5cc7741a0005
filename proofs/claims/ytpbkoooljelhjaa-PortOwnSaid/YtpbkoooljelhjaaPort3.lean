/-
  The walks of package port, third part: slices.Clone and Both.
-/
import Derived.Test.YtpbkoooljelhjaaPort2
import Derived.Laws.AppendOwnNone
import Derived.Lib.BufferMore
namespace Go.Proofs.Ytpbkoooljelhjaa
set_option linter.unusedVariables false
set_option linter.unusedSimpArgs false
open Go.RowKit

theorem Port.info : (Try.prog.info? 51).map (fun i => (i.zero, i.size, i.bytes)) = some (some (.agg #[.int .i64 0, .int .i64 0]), 2, 16) := by kernel_rfl

set_option maxHeartbeats 1000000 in
set_option maxRecDepth 100000 in
/-- slices.Clone. -/
theorem Port.clone_calls (A : Option Addr) (n cap : Nat) (l : List Fr) (w : World) (hl : Frames w A n l) (hn : n ≤ 1000000) :
    Calls Try.prog 99 #[.slice A n cap] w fun e w' => ∃ v, e = .returned v ∧ w'.ownsRow w.heap.size 51 2 v n (Port.cells l) ∧ Below w.heap.size w w' := by
  obtain ⟨i0, hi, hz0, hz1, hz2⟩ := info_parts Port.info
  cases A with
  | none =>
    have h0 : n = 0 := by
      rcases Nat.eq_zero_or_pos n with h | h
      · exact h
      · obtain ⟨b, off, e, _⟩ := hl.row h
        cases e
    subst h0
    have hl0 : l = [] := List.eq_nil_of_length_eq_zero hl.len
    subst hl0
    have hnil := fun (w : World) => Go.Lib.run_eql_slice_nil_nil (P := Try.prog) w 0 cap Try.underlying60
    go_enter Try.func99, Try.ntmps99
    go_wp2_with fail
    go_ret
    exact ⟨_, rfl, World.ownsRow_nil _ _ _ _, Below.refl _ _⟩
  | some a =>
    have hnews := fun (W : World) (hW : Below w.heap.size w W) => (hl.below hW).news
    have HN := Lib.hid hnews
    have hone := Port.cells_one l
    clear hl hnews
    have hnil := fun (w : World) => Go.Lib.run_eql_slice_some_nil (P := Try.prog) w a n cap Try.underlying60
    go_enter Try.func99, Try.ntmps99
    go_wp2_with (at_builtin; go_loud (refine wpList_append_own _ rfl _ _ 60 rfl w.heap.size 51 i0 (.agg #[.int .i64 0, .int .i64 0]) 2 16 Try.underlying60 hi hz0 hz1 hz2 rfl (by decide) _ _ _ rfl (World.ownsRow_lit w #[] 0 (Nat.le_refl _) (by unfold maxLen; omega) rfl) a n cap (Port.cells l) rfl ?c1 ?c2 ?c3 ?c4 ?c5 ?c6 ?_))
    case c1 => exact (HN.out w (Below.refl _ _)).1
    case c2 => exact (HN.out _ ((Below.refl _ _).alloc (Nat.le_refl _) _)).2
    case c3 => exact hone
    case c4 => unfold maxLen; omega
    case c5 => omega
    case c6 => simp
    · intro v' w3 hown' hgrow _
      have b3 : Below w.heap.size w w3 := ((Below.refl _ _).alloc (Nat.le_refl _) _).grown hgrow (by simp) (fun q hq => by simp [Value.ownBlock] at hq; omega)
      have B3 := Lib.hid b3
      clear b3 hgrow
      have hown2 : w3.ownsRow w.heap.size 51 2 v' n (Port.cells l) := by simpa using hown'
      clear hown'
      go_wp2
      go_ret
      exact ⟨_, rfl, hown2, B3.out⟩

/-- What is handed back: a row of the call's own, and whether it went well. -/
def Port.Row (w : World) (l : List Fr) (err : Int) (e : Ending) (w' : World) : Prop := ∃ v, e = .returned (.tuple #[v, .int .i64 err]) ∧ w'.ownsRow w.heap.size 51 2 v l.length (Port.cells l) ∧ Below w.heap.size w w'
theorem Port.set_own {w wr : World} {g cap n : Nat} {q : List Fr} (hown : wr.ownsRow w.heap.size 51 2 (.slice (some ⟨g, 0, none⟩) n cap) n (Port.cells q)) (hq : q.length = n) (hB : Below w.heap.size w wr) (k : Nat) (hk : k < n) (x : Fr) :
    ((wr.setCell ⟨g, k * 2, none⟩ (.int .i64 x.k)).setCell ⟨g, k * 2 + 1, none⟩ (.int .i64 x.i)).ownsRow w.heap.size 51 2 (.slice (some ⟨g, 0, none⟩) n cap) n (Port.cells (q.set k x)) ∧
    Below w.heap.size w ((wr.setCell ⟨g, k * 2, none⟩ (.int .i64 x.k)).setCell ⟨g, k * 2 + 1, none⟩ (.int .i64 x.i)) := by
  have h1 := (hown.stored (k * 2) (.int .i64 x.k)).1
  have h2 := (h1.stored (k * 2 + 1) (.int .i64 x.i)).1
  rw [Port.cells_set q k x (by omega)] at h2
  have hg : w.heap.size ≤ g := Kit.own_base hown g rfl
  exact ⟨h2, (hB.setCell hg _).setCell hg _⟩

theorem Port.alloc_own {w wr : World} {base : Nat} {v : Value} {n : Nat} {q : List Value} (h : wr.ownsRow base 51 2 v n q) (hB : Below w.heap.size w wr) (cs : Array Value) (t : TypeId) :
    (wr.alloc (.cells cs t)).ownsRow base 51 2 v n q ∧ Below w.heap.size w (wr.alloc (.cells cs t)) :=
  ⟨Kit.own_below h ((Below.refl _ _).alloc (Nat.le_refl _) _), hB.alloc hB.size _⟩

set_option maxHeartbeats 1000000 in
set_option maxRecDepth 100000 in
/-- port.Both. -/
theorem Port.both_calls (A A2 : Option Addr) (n cap n2 cap2 : Nat) (a b : List Fr) (w : World) (hl : Frames w A n a) (hm : Frames w A2 n2 b) (hn : n ≤ 1000000) (hn2 : n2 ≤ 1000000) :
    Calls Try.prog 57 #[.slice A n cap, .slice A2 n2 cap2] w (Port.Row w (if n = n2 then Port.both a b else []) (if n = n2 then 0 else 2)) := by
  by_cases hnn : n = n2
  · subst hnn
    rw [if_pos rfl, if_pos rfl]
    have hab : a.length = b.length := by rw [hl.len, hm.len]
    have hbl : b.length = n := hm.len
    have hlen : (Port.both a b).length = b.length := Port.both_len a b hab
    have cc := Port.clone_calls A2 n cap2 b w hm hn
    have HL := Lib.hid hl
    have HM := Lib.hid hm
    have HAB := Lib.hid hab
    have HBL := Lib.hid hbl
    have HLen := Lib.hid hlen
    clear hl hm hab hbl hlen
    go_enter Try.func57, Try.ntmps57
    go_wp2_with fail
    refine cc.mono ?_
    rintro e w1 ⟨v, rfl, hown0, b1⟩
    have B1 := Lib.hid b1
    clear b1 cc
    go_wp2_with fail
    go_loopw [7, 8, 18] (fun _ _ vi wr => ∃ k : Nat, k ≤ n ∧ vi = .int .i64 k ∧ wr.ownsRow w.heap.size 51 2 v n (Port.cells (Port.mix (Port.both a b) b k)) ∧ Hid (Below w.heap.size w wr)) (fun _ _ vi _ => n - (intOf vi).toNat)
    case atStart => exact ⟨0, by omega, rfl, by rw [Port.mix_zero]; exact hown0, B1⟩
    case round =>
      clear hown0 B1
      obtain ⟨k, hk, rfl, hown, HB⟩ := hrel
      by_cases hlt : k < n
      · obtain ⟨bb, off, rfl, hb, hrow⟩ := HL.out.row (by omega)
        have hka : k < a.length := by rw [HAB.out, HBL.out]; exact hlt
        have hkb : k < b.length := by rw [HBL.out]; exact hlt
        obtain ⟨x, hx⟩ : ∃ x, a[k]? = some x := ⟨_, List.getElem?_eq_getElem hka⟩
        obtain ⟨y, hy⟩ : ∃ y, b[k]? = some y := ⟨_, List.getElem?_eq_getElem hkb⟩
        have hpk := Port.both_get a b k x y hx hy
        obtain ⟨r0, r1⟩ := hrow k x hx
        have m0 := (HB.out.cell (p := ⟨bb, off + k * 2, none⟩) hb).trans r0
        have m1 := (HB.out.cell (p := ⟨bb, off + k * 2 + 1, none⟩) hb).trans r1
        clear hrow r0 r1 hka hkb
        by_cases hxz : x = Fr.none
        · have hs : Port.mix (Port.both a b) b (k + 1) = Port.mix (Port.both a b) b k := Port.mix_same _ _ k y HLen.out (by rw [hpk]; unfold Port.pick; rw [if_pos hxz]) hy
          have HS := Lib.hid hs
          clear hs hpk hx hy
          subst hxz
          simp only [Fr.none] at m0 m1
          have ba : Below wr.heap.size wr (wr.alloc (.cells #[.int .i64 0, .int .i64 0] 51)) := (Below.refl _ _).alloc (Nat.le_refl _) _
          have BA := Lib.hid ba
          clear ba
          go_wp2_with fail
          go_roundw
          case rel => exact ⟨k + 1, by omega, by go_num, by rw [HS.out]; exact Kit.own_below hown BA.out, Lib.hid (HB.out.trans (BA.out.mono HB.out.size))⟩
          case measure => simp [intOf]; omega
        · obtain ⟨g, cap', rfl, _, hglt⟩ := hown.form (by omega)
          obtain ⟨c0, c1⟩ := Port.cells_get _ k y (Port.mix_at (Port.both a b) b k y HLen.out hy)
          have t0 := (hown.cellAt (k * 2) (by omega)).trans c0
          have t1 := (hown.cellAt (k * 2 + 1) (by omega)).trans c1
          have f0 := hown.frozenAt (k * 2)
          have f1 := hown.frozenAt (k * 2 + 1)
          have hs : Port.mix (Port.both a b) b (k + 1) = (Port.mix (Port.both a b) b k).set k x := Port.mix_succ _ _ k x HLen.out (by rw [hpk]; unfold Port.pick; rw [if_neg hxz])
          have HS := Lib.hid hs
          rw [Port.fr_eq] at hxz
          simp only [Fr.none] at hxz
          clear hs hpk hx hy c0 c1
          by_cases e1 : x.k = 0
          · have e2 : (x.i == 0) = false := by rw [beq_eq_false_iff_ne]; exact fun h => hxz ⟨e1, h⟩
            have e1' : (x.k == 0) = true := by rw [beq_iff_eq]; exact e1
            clear hxz e1
            have own0 := Port.set_own hown (Port.mix_len _ _ k HLen.out (by rw [HBL.out]; omega) |>.trans HBL.out) HB.out k hlt x
            have own2 := Port.alloc_own own0.1 own0.2 #[.int .i64 x.k, .int .i64 x.i] 51
            rw [← HS.out] at own2
            have OWN := Lib.hid own2
            clear own2 own0
            go_wp2_with fail
            go_roundw
            case rel => exact ⟨k + 1, by omega, by go_num, OWN.out.1, Lib.hid OWN.out.2⟩
            case measure => simp [intOf]; omega
          · have e1' : (x.k == 0) = false := by rw [beq_eq_false_iff_ne]; exact e1
            clear hxz
            have own0 := Port.set_own hown (Port.mix_len _ _ k HLen.out (by rw [HBL.out]; omega) |>.trans HBL.out) HB.out k hlt x
            have own2 := Port.alloc_own own0.1 own0.2 #[.int .i64 x.k, .int .i64 x.i] 51
            rw [← HS.out] at own2
            have OWN := Lib.hid own2
            clear own2 own0
            go_wp2_with fail
            go_roundw
            case rel => exact ⟨k + 1, by omega, by go_num, OWN.out.1, Lib.hid OWN.out.2⟩
            case measure => simp [intOf]; omega
      · obtain rfl : k = n := by omega
        have hall := Port.mix_all (Port.both a b) b k (by rw [HLen.out, HBL.out]) HBL.out
        rw [hall] at hown
        clear hall
        go_wp2_with fail
        go_ret2
        exact ⟨_, rfl, by rw [HLen.out, HBL.out]; exact hown, HB.out⟩
  · rw [if_neg hnn, if_neg hnn]
    have h1 : ((n : Int) != (n2 : Int)) = true := by rw [bne_iff_ne]; omega
    go_enter Try.func57, Try.ntmps57
    go_wp2_with fail
    go_ret2
    exact ⟨_, rfl, World.ownsRow_nil _ _ _ _, Below.refl _ _⟩
end Go.Proofs.Ytpbkoooljelhjaa
