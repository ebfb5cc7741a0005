/-
  The walks of package port, fourth part: the answer's Both.
-/
import Derived.Test.YtpbkoooljelhjaaPort3
namespace Go.Proofs.Ytpbkoooljelhjaa
set_option linter.unusedVariables false
set_option linter.unusedSimpArgs false
open Go.RowKit
set_option maxHeartbeats 1000000 in
set_option maxRecDepth 100000 in
/-- daybreakref10.Both. -/
theorem Port.rboth_calls (A A2 : Option Addr) (n cap n2 cap2 : Nat) (a b : List Fr) (w : World) (hl : Frames w A n a) (hm : Frames w A2 n2 b) (hn : n ≤ 1000000) (hn2 : n2 ≤ 1000000) (hcap : A = none → cap = 0) :
    Calls Try.prog 68 #[.slice A n cap, .slice A2 n2 cap2] w (Port.Row w (if n = n2 then Port.both a b else []) (if n = n2 then 0 else 2)) := by
  by_cases hnn : n = n2
  · subst hnn
    rw [if_pos rfl, if_pos rfl]
    have hab : a.length = b.length := by rw [hl.len, hm.len]
    have hbl : b.length = n := hm.len
    have hlen : (Port.both a b).length = b.length := Port.both_len a b hab
    obtain ⟨i0, hi, hz0, hz1, hz2⟩ := info_parts Port.info
    have HL := Lib.hid hl
    have HM := Lib.hid hm
    cases A with
    | none =>
      have h0 : n = 0 := by
        rcases Nat.eq_zero_or_pos n with h | h
        · exact h
        · obtain ⟨b, off, e, _⟩ := hl.row h
          cases e
      subst h0
      obtain rfl := hcap rfl
      have ha0 : a = [] := List.eq_nil_of_length_eq_zero hl.len
      have hown0 : (w.alloc (.cells #[] 51)).ownsRow w.heap.size 51 2 (.slice (some ⟨w.heap.size, 0, Option.none⟩) 0 0) 0 [] := World.ownsRow_lit w #[] 0 (Nat.le_refl _) (by unfold maxLen; omega) rfl
      have HAB := Lib.hid hab
      have HBL := Lib.hid hbl
      have HLen := Lib.hid hlen
      clear hl hm hab hbl hlen
      go_enter Try.func68, Try.ntmps68
      go_wp2_with (at_builtin; go_loud (refine wpList_append_own_none rfl _ _ 60 rfl w.heap.size 51 i0 2 Try.underlying60 hi _ _ _ rfl hown0 rfl ?_))
      have B3 : Hid (Below w.heap.size w (w.alloc (.cells #[] 51))) := Lib.hid ((Below.refl _ _).alloc (Nat.le_refl _) _)
      have hown2 : (w.alloc (.cells #[] 51)).ownsRow w.heap.size 51 2 (.slice (some ⟨w.heap.size, 0, Option.none⟩) 0 0) 0 (Port.cells (Port.both a b)) := by rw [ha0]; exact hown0
      have H2 := Lib.hid hown2
      clear hown2 hown0
      go_wp2_with fail
      go_loopw [7] (fun vi wr => vi = .int .i64 0 ∧ wr = (w.alloc (.cells #[] 51))) (fun vi _ => 0 - (intOf vi).toNat)
      case atStart => exact ⟨rfl, rfl⟩
      case round =>
        obtain ⟨rfl, rfl⟩ := hrel
        go_wp2_with fail
        go_ret2
        exact ⟨_, rfl, by rw [HLen.out, HBL.out]; exact H2.out, B3.out⟩
    | some ad =>
      have hnews := fun (W : World) (hW : Below w.heap.size w W) => (hl.below hW).news
      have HN := Lib.hid hnews
      have hone := Port.cells_one a
      clear hnews
      have HAB := Lib.hid hab
      have HBL := Lib.hid hbl
      have HLen := Lib.hid hlen
      clear hl hm hab hbl hlen
      go_enter Try.func68, Try.ntmps68
      go_wp2_with (at_builtin; go_loud (refine wpList_append_own _ rfl _ _ 60 rfl w.heap.size 51 i0 (.agg #[.int .i64 0, .int .i64 0]) 2 16 Try.underlying60 hi hz0 hz1 hz2 rfl (by decide) _ _ _ rfl (World.ownsRow_lit w #[] 0 (Nat.le_refl _) (by unfold maxLen; omega) rfl) ad n cap (Port.cells a) rfl ?c1 ?c2 ?c3 ?c4 ?c5 ?c6 ?_))
      case c1 => exact (HN.out w (Below.refl _ _)).1
      case c2 => exact (HN.out _ ((Below.refl _ _).alloc (Nat.le_refl _) _)).2
      case c3 => exact hone
      case c4 => unfold maxLen; omega
      case c5 => omega
      case c6 => simp
      intro v' w3 hown' hgrow _
      have b3 : Below w.heap.size w w3 := ((Below.refl _ _).alloc (Nat.le_refl _) _).grown hgrow (by simp) (fun q hq => by simp [Value.ownBlock] at hq; omega)
      have B3 := Lib.hid b3
      have hown2 : w3.ownsRow w.heap.size 51 2 v' n (Port.cells a) := by simpa using hown'
      clear hown' b3 hgrow HN hone
      go_wp2_with fail
      go_loopw [7] (fun vi wr => ∃ k : Nat, k ≤ n ∧ vi = .int .i64 k ∧ wr.ownsRow w.heap.size 51 2 v' n (Port.cells (Port.mix (Port.both a b) a k)) ∧ Hid (Below w.heap.size w wr)) (fun vi _ => n - (intOf vi).toNat)
      case atStart => exact ⟨0, by omega, rfl, by rw [Port.mix_zero]; exact hown2, B3⟩
      case round =>
        clear hown2 B3
        obtain ⟨k, hk, rfl, hown, HB⟩ := hrel
        by_cases hlt : k < n
        · obtain ⟨bb, off, hbb, hb, hrow⟩ := HL.out.row (by omega)
          cases hbb
          obtain ⟨bb2, off2, rfl, hb2, hrow2⟩ := HM.out.row (by omega)
          have hka : k < a.length := by rw [HAB.out, HBL.out]; exact hlt
          have hkb : k < b.length := by rw [HBL.out]; exact hlt
          obtain ⟨x, hx⟩ : ∃ x, a[k]? = some x := ⟨_, List.getElem?_eq_getElem hka⟩
          obtain ⟨y, hy⟩ : ∃ y, b[k]? = some y := ⟨_, List.getElem?_eq_getElem hkb⟩
          have hpk := Port.both_get a b k x y hx hy
          obtain ⟨r0, r1⟩ := hrow k x hx
          obtain ⟨q0, q1⟩ := hrow2 k y hy
          have m0 := (HB.out.cell (p := ⟨bb, off + k * 2, none⟩) hb).trans r0
          have m1 := (HB.out.cell (p := ⟨bb, off + k * 2 + 1, none⟩) hb).trans r1
          have m2 := (HB.out.cell (p := ⟨bb2, off2 + k * 2, none⟩) hb2).trans q0
          have m3 := (HB.out.cell (p := ⟨bb2, off2 + k * 2 + 1, none⟩) hb2).trans q1
          have HLA : Hid ((Port.both a b).length = a.length) := Lib.hid (HLen.out.trans HAB.out.symm)
          clear hrow r0 r1 hka hkb hrow2 q0 q1
          by_cases hxz : x = Fr.none
          · obtain ⟨g, cap', rfl, _, hglt⟩ := hown.form (by omega)
            obtain ⟨c0, c1⟩ := Port.cells_get _ k x (Port.mix_at (Port.both a b) a k x HLA.out hx)
            have t0 := (hown.cellAt (k * 2) (by omega)).trans c0
            have t1 := (hown.cellAt (k * 2 + 1) (by omega)).trans c1
            have f0 := hown.frozenAt (k * 2)
            have f1 := hown.frozenAt (k * 2 + 1)
            have hs : Port.mix (Port.both a b) a (k + 1) = (Port.mix (Port.both a b) a k).set k y := Port.mix_succ _ _ k y HLA.out (by rw [hpk]; unfold Port.pick; rw [if_pos hxz])
            have own0 := Port.set_own hown (Port.mix_len _ _ k HLA.out (by rw [HAB.out, HBL.out]; omega) |>.trans (HAB.out.trans HBL.out)) HB.out k hlt y
            rw [← hs] at own0
            have OWN := Lib.hid own0
            clear own0 hs hpk hx hy c0 c1
            subst hxz
            simp only [Fr.none] at m0 m1 t0 t1
            go_wp2_with fail
            go_roundw
            case rel => exact ⟨k + 1, by omega, by go_num, OWN.out.1, Lib.hid OWN.out.2⟩
            case measure => simp [intOf]; omega
          · have hs : Port.mix (Port.both a b) a (k + 1) = Port.mix (Port.both a b) a k := Port.mix_same _ _ k x HLA.out (by rw [hpk]; unfold Port.pick; rw [if_neg hxz]) hx
            have HS := Lib.hid hs
            rw [Port.fr_eq] at hxz
            simp only [Fr.none] at hxz
            clear hs hpk hx hy
            by_cases e1 : x.k = 0
            · have e2 : (x.i == 0) = false := by rw [beq_eq_false_iff_ne]; exact fun h => hxz ⟨e1, h⟩
              have e1' : (x.k == 0) = true := by rw [beq_iff_eq]; exact e1
              clear hxz e1
              go_wp2_with fail
              go_roundw
              case rel => exact ⟨k + 1, by omega, by go_num, by rw [HS.out]; exact hown, HB⟩
              case measure => simp [intOf]; omega
            · have e1' : (x.k == 0) = false := by rw [beq_eq_false_iff_ne]; exact e1
              clear hxz
              go_wp2_with fail
              go_roundw
              case rel => exact ⟨k + 1, by omega, by go_num, by rw [HS.out]; exact hown, HB⟩
              case measure => simp [intOf]; omega
        · obtain rfl : k = n := by omega
          have hall := Port.mix_all (Port.both a b) a k (by rw [HLen.out, HBL.out]) (by rw [HAB.out, HBL.out])
          rw [hall] at hown
          clear hall
          go_wp2_with fail
          go_ret2
          exact ⟨_, rfl, by rw [HLen.out, HBL.out]; exact hown, HB.out⟩
  · rw [if_neg hnn, if_neg hnn]
    have h1 : ((n : Int) != (n2 : Int)) = true := by rw [bne_iff_ne]; omega
    go_enter Try.func68, Try.ntmps68
    go_wp2_with fail
    go_ret2
    exact ⟨_, rfl, World.ownsRow_nil _ _ _ _, Below.refl _ _⟩
end Go.Proofs.Ytpbkoooljelhjaa
