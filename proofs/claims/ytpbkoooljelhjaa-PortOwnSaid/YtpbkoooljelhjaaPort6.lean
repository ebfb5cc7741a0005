/-
  The walks of package port, sixth part: the answer's Take.
-/
import Derived.Test.YtpbkoooljelhjaaPort5
import Derived.Test.YtpbkoooljelhjaaWire2
namespace Go.Proofs.Ytpbkoooljelhjaa
set_option linter.unusedVariables false
set_option linter.unusedSimpArgs false
open Go.RowKit
theorem Port.made (n : Nat) : (madeCells (Value.agg #[.int .i64 0, .int .i64 0]).cells (n * 2)).toList = Port.cells (List.replicate n Fr.none) := by
  apply List.ext_getElem?
  intro j
  by_cases hj : j < n * 2
  · have h2 : (Port.cells (List.replicate n Fr.none))[j]? = some (.int .i64 0) := by
      obtain ⟨c0, c1⟩ := Port.cells_get (List.replicate n Fr.none) (j / 2) Fr.none (by rw [List.getElem?_replicate, if_pos (by omega)])
      rcases Nat.mod_two_eq_zero_or_one j with e | e
      · rw [show j / 2 * 2 = j by omega] at c0; exact c0
      · rw [show j / 2 * 2 + 1 = j by omega] at c1; exact c1
    rw [h2]
    have hsz : (Value.agg #[.int .i64 0, .int .i64 0]).cells = #[.int .i64 0, .int .i64 0] := rfl
    rw [hsz]
    have hg : (madeCells #[Value.int .i64 0, .int .i64 0] (n * 2)).toList[j]? = some (#[Value.int .i64 0, .int .i64 0][j % 2]!) := by
      simp [madeCells, hj]
    rw [hg]
    rcases Nat.mod_two_eq_zero_or_one j with e | e <;> rw [e] <;> rfl
  · rw [List.getElem?_eq_none (by simp [madeCells]; omega), List.getElem?_eq_none (by rw [Port.cells_len]; simp; omega)]

set_option maxHeartbeats 2000000 in
set_option maxRecDepth 100000 in
theorem Port.rtake1 (A : Option Addr) (n cap : Nat) (l : List ByteArray) (w : World) (hl : Strs w A n l) (hs : ∀ s ∈ l, s.size ≤ maxLen) (h3 : 3 ≤ n) (h8 : n ≤ 8) :
    Calls Try.prog 67 #[.int .i64 n, .slice A n cap] w (Port.Row w (Port.take l n) 0) := by
  obtain ⟨i0, hi, hz0, hz1, hz2⟩ := info_parts Port.info
  have hcf := fun w => Port.rconf_calls (n : Int) w
  rw [show decide (3 ≤ (n : Int)) = true from by simp; omega, show decide ((n : Int) ≤ 8) = true from by simp; omega] at hcf
  obtain ⟨W0, hrun, hown0, hg0⟩ := run_make_full (P := Try.prog) w w.heap.size 60 51 i0 (.agg #[.int .i64 0, .int .i64 0]) 2 Try.underlying60 hi hz0 hz1 .i64 .i64 n (by rw [hz2]; omega) (by unfold maxLen; omega) (Nat.le_refl _)
  rw [Port.made] at hown0
  have B0 := Lib.hid ((Below.refl w.heap.size w).grown hg0 (Nat.le_refl _) (fun q hq => by cases hq))
  have hlen : (Port.take l n).length = (List.replicate n Fr.none).length := by rw [Port.take_len, List.length_replicate]
  have HLen := Lib.hid hlen
  have HL := Lib.hid hl
  have HS := Lib.hid hs
  clear hl hs hg0 hlen
  go_enter Try.func67, Try.ntmps67
  go_wp2_with fail
  refine (hcf _).mono ?_
  rintro e w1 ⟨rfl, rfl⟩
  go_wp2_with fail
  clear hrun hcf
  go_loopw [7, 8] (fun vi _ wr => ∃ k : Nat, k ≤ n ∧ vi = .int .i64 k ∧ wr.ownsRow w.heap.size 51 2 (.slice (some ⟨w.heap.size, 0, Option.none⟩) n n) n (Port.cells (Port.mix (Port.take l n) (List.replicate n Fr.none) k)) ∧ Hid (Below w.heap.size w wr)) (fun vi _ _ => n - (intOf vi).toNat)
  case atStart => exact ⟨0, by omega, rfl, by rw [Port.mix_zero]; exact hown0, B0⟩
  case round =>
    clear hown0 B0
    obtain ⟨k, hk, rfl, hown, HB⟩ := hrel
    by_cases hlt : k < n
    · obtain ⟨b, off, rfl, hb, hrow⟩ := HL.out.row (by omega)
      have hkl : k < l.length := by rw [HL.out.len]; exact hlt
      obtain ⟨s, hx⟩ : ∃ s, l[k]? = some s := ⟨_, List.getElem?_eq_getElem hkl⟩
      have m0 := (HB.out.cell (p := ⟨b, off + k, Option.none⟩) hb).trans (hrow k s hx)
      have hws : w.heap.size < wr.heap.size := by
        obtain ⟨g, cap', e, _, hg⟩ := hown.form (by omega)
        simp only [Value.slice.injEq, Option.some.injEq, Addr.mk.injEq, and_true, true_and] at e
        rw [e.1]; exact hg
      have cg := fun w => Wire.rget_calls s w
      have ht := Port.take_get l n k s hlt hx
      rw [Port.one_eq] at ht
      have hcs := Wire.get_cases s
      clear hrow hx hkl
      generalize Wire.get s = g at *
      rcases hcs with ⟨_, rfl⟩ | ⟨_, hr⟩ | ⟨_, rfl⟩
      · simp only [Fr.none] at cg
        have HT : Hid (Port.mix (Port.take l n) (List.replicate n Fr.none) (k + 1) = Port.mix (Port.take l n) (List.replicate n Fr.none) k) := Lib.hid (Port.mix_same _ _ k Fr.none HLen.out (by rw [ht]; simp [Fr.right, Fr.none]) (by rw [List.getElem?_replicate, if_pos hlt]))
        clear ht
        go_wp2_with fail
        refine (cg _).mono ?_
        rintro e w1 ⟨rfl, b1⟩
        have own1 := Kit.own_below hown b1
        have B1 := Lib.hid (HB.out.trans (b1.mono HB.out.size))
        have hsz1 := Nat.lt_of_lt_of_le hws b1.size
        clear b1
        have OWN := Lib.hid (Port.alloc_own own1 B1.out #[.int .i64 0, .int .i64 0] 51)
        clear own1
        go_wp2_with fail
        go_roundw
        case rel => exact ⟨k + 1, by omega, by go_num, by rw [HT.out]; exact OWN.out.1, Lib.hid OWN.out.2⟩
        case measure => simp [intOf]; omega
      · obtain ⟨a, b2, ha, hb2, rfl⟩ := Fr.right_nat hr
        simp only at cg
        rcases ha with rfl | rfl
        · rw [show ((1 : Nat) : Int) = 1 from rfl] at *
          by_cases hbk : b2 = k
          · subst hbk
            have HT : Hid (Port.mix (Port.take l n) (List.replicate n Fr.none) (b2 + 1) = (Port.mix (Port.take l n) (List.replicate n Fr.none) b2).set b2 ⟨1, (b2 : Int)⟩) := Lib.hid (Port.mix_succ _ _ b2 ⟨1, (b2 : Int)⟩ HLen.out (by rw [ht, if_pos ⟨hr, rfl⟩]))
            clear ht hr
            go_wp2_with fail
            refine (cg _).mono ?_
            rintro e w1 ⟨rfl, b1⟩
            have own1 := Kit.own_below hown b1
            have B1 := Lib.hid (HB.out.trans (b1.mono HB.out.size))
            have hsz1 := Nat.lt_of_lt_of_le hws b1.size
            clear b1
            obtain ⟨c0, c1⟩ := Port.cells_get _ b2 Fr.none (Port.mix_at (Port.take l n) (List.replicate n Fr.none) b2 Fr.none HLen.out (by rw [List.getElem?_replicate, if_pos hlt]))
            have t0 := (own1.cellAt (b2 * 2) (by omega)).trans c0
            have t1 := (own1.cellAt (b2 * 2 + 1) (by omega)).trans c1
            have f0 := own1.frozenAt (b2 * 2)
            have f1 := own1.frozenAt (b2 * 2 + 1)
            have own0 := Port.set_own own1 (Port.mix_len (Port.take l n) (List.replicate n Fr.none) b2 HLen.out (by simp; omega) |>.trans (by simp)) B1.out b2 hlt ⟨1, (b2 : Int)⟩
            have own2 := Port.alloc_own own0.1 own0.2 #[.int .i64 1, .int .i64 (b2 : Int)] 51
            have OWN := Lib.hid own2
            simp only [Fr.none] at t0 t1
            clear own0 own2 c0 c1 own1
            go_wp2_with fail
            go_roundw
            case rel => exact ⟨b2 + 1, by omega, by go_num, by rw [HT.out]; exact OWN.out.1, Lib.hid OWN.out.2⟩
            case measure => simp [intOf]; omega
          · have e3 : ((b2 : Int) == (k : Int)) = false := by rw [beq_eq_false_iff_ne]; omega
            have HT : Hid (Port.mix (Port.take l n) (List.replicate n Fr.none) (k + 1) = Port.mix (Port.take l n) (List.replicate n Fr.none) k) := Lib.hid (Port.mix_same _ _ k Fr.none HLen.out (by rw [ht, if_neg (by rintro ⟨_, h⟩; simp at h; omega)]) (by rw [List.getElem?_replicate, if_pos hlt]))
            clear ht hr
            go_wp2_with fail
            refine (cg _).mono ?_
            rintro e w1 ⟨rfl, b1⟩
            have own1 := Kit.own_below hown b1
            have B1 := Lib.hid (HB.out.trans (b1.mono HB.out.size))
            have hsz1 := Nat.lt_of_lt_of_le hws b1.size
            clear b1
            have OWN := Lib.hid (Port.alloc_own own1 B1.out #[.int .i64 1, .int .i64 (b2 : Int)] 51)
            clear own1
            go_wp2_with fail
            go_roundw
            case rel => exact ⟨k + 1, by omega, by go_num, by rw [HT.out]; exact OWN.out.1, Lib.hid OWN.out.2⟩
            case measure => simp [intOf]; omega
        · rw [show ((2 : Nat) : Int) = 2 from rfl] at *
          by_cases hbk : b2 = k
          · subst hbk
            have HT : Hid (Port.mix (Port.take l n) (List.replicate n Fr.none) (b2 + 1) = (Port.mix (Port.take l n) (List.replicate n Fr.none) b2).set b2 ⟨2, (b2 : Int)⟩) := Lib.hid (Port.mix_succ _ _ b2 ⟨2, (b2 : Int)⟩ HLen.out (by rw [ht, if_pos ⟨hr, rfl⟩]))
            clear ht hr
            go_wp2_with fail
            refine (cg _).mono ?_
            rintro e w1 ⟨rfl, b1⟩
            have own1 := Kit.own_below hown b1
            have B1 := Lib.hid (HB.out.trans (b1.mono HB.out.size))
            have hsz1 := Nat.lt_of_lt_of_le hws b1.size
            clear b1
            obtain ⟨c0, c1⟩ := Port.cells_get _ b2 Fr.none (Port.mix_at (Port.take l n) (List.replicate n Fr.none) b2 Fr.none HLen.out (by rw [List.getElem?_replicate, if_pos hlt]))
            have t0 := (own1.cellAt (b2 * 2) (by omega)).trans c0
            have t1 := (own1.cellAt (b2 * 2 + 1) (by omega)).trans c1
            have f0 := own1.frozenAt (b2 * 2)
            have f1 := own1.frozenAt (b2 * 2 + 1)
            have own0 := Port.set_own own1 (Port.mix_len (Port.take l n) (List.replicate n Fr.none) b2 HLen.out (by simp; omega) |>.trans (by simp)) B1.out b2 hlt ⟨2, (b2 : Int)⟩
            have own2 := Port.alloc_own own0.1 own0.2 #[.int .i64 2, .int .i64 (b2 : Int)] 51
            have OWN := Lib.hid own2
            simp only [Fr.none] at t0 t1
            clear own0 own2 c0 c1 own1
            go_wp2_with fail
            go_roundw
            case rel => exact ⟨b2 + 1, by omega, by go_num, by rw [HT.out]; exact OWN.out.1, Lib.hid OWN.out.2⟩
            case measure => simp [intOf]; omega
          · have e3 : ((b2 : Int) == (k : Int)) = false := by rw [beq_eq_false_iff_ne]; omega
            have HT : Hid (Port.mix (Port.take l n) (List.replicate n Fr.none) (k + 1) = Port.mix (Port.take l n) (List.replicate n Fr.none) k) := Lib.hid (Port.mix_same _ _ k Fr.none HLen.out (by rw [ht, if_neg (by rintro ⟨_, h⟩; simp at h; omega)]) (by rw [List.getElem?_replicate, if_pos hlt]))
            clear ht hr
            go_wp2_with fail
            refine (cg _).mono ?_
            rintro e w1 ⟨rfl, b1⟩
            have own1 := Kit.own_below hown b1
            have B1 := Lib.hid (HB.out.trans (b1.mono HB.out.size))
            have hsz1 := Nat.lt_of_lt_of_le hws b1.size
            clear b1
            have OWN := Lib.hid (Port.alloc_own own1 B1.out #[.int .i64 2, .int .i64 (b2 : Int)] 51)
            clear own1
            go_wp2_with fail
            go_roundw
            case rel => exact ⟨k + 1, by omega, by go_num, by rw [HT.out]; exact OWN.out.1, Lib.hid OWN.out.2⟩
            case measure => simp [intOf]; omega
      · simp only [Fr.noise] at cg
        have HT : Hid (Port.mix (Port.take l n) (List.replicate n Fr.none) (k + 1) = Port.mix (Port.take l n) (List.replicate n Fr.none) k) := Lib.hid (Port.mix_same _ _ k Fr.none HLen.out (by rw [ht]; simp [Fr.right, Fr.none, Fr.noise]) (by rw [List.getElem?_replicate, if_pos hlt]))
        clear ht
        go_wp2_with fail
        refine (cg _).mono ?_
        rintro e w1 ⟨rfl, b1⟩
        have own1 := Kit.own_below hown b1
        have B1 := Lib.hid (HB.out.trans (b1.mono HB.out.size))
        have hsz1 := Nat.lt_of_lt_of_le hws b1.size
        clear b1
        have OWN := Lib.hid (Port.alloc_own own1 B1.out #[.int .i64 3, .int .i64 0] 51)
        clear own1
        go_wp2_with fail
        go_roundw
        case rel => exact ⟨k + 1, by omega, by go_num, by rw [HT.out]; exact OWN.out.1, Lib.hid OWN.out.2⟩
        case measure => simp [intOf]; omega
    · obtain rfl : k = n := by omega
      have hall := Port.mix_all (Port.take l k) (List.replicate k Fr.none) k (Port.take_len l k) (by simp)
      rw [hall] at hown
      clear hall
      go_wp2_with fail
      go_ret2
      exact ⟨_, rfl, by rw [Port.take_len]; exact hown, HB.out⟩

set_option maxHeartbeats 1000000 in
set_option maxRecDepth 100000 in
/-- daybreakref10.Take. -/
theorem Port.rtake_calls (x : Int) (A : Option Addr) (n cap : Nat) (l : List ByteArray) (w : World) (hl : Strs w A n l) (hs : ∀ s ∈ l, s.size ≤ maxLen) (hn : n ≤ 9223372036854775807) :
    Calls Try.prog 67 #[.int .i64 x, .slice A n cap] w (Port.Row w (Port.takeV x l).1 (Port.takeV x l).2) := by
  unfold Port.takeV
  have hll := hl.len
  by_cases hx : 3 ≤ x ∧ x ≤ 8
  · rw [if_pos hx]
    by_cases hnx : (l.length : Int) = x
    · rw [if_pos hnx, hll]
      have : x = (n : Int) := by rw [← hnx, hll]
      subst this
      exact Port.rtake1 A n cap l w hl hs (by omega) (by omega)
    · rw [if_neg hnx]
      have h1 : ((n : Int) != x) = true := by rw [bne_iff_ne]; omega
      have hcf := fun w => Port.rconf_calls x w
      rw [show decide (3 ≤ x) = true from by simp; omega, show decide (x ≤ 8) = true from by simp; omega] at hcf
      clear hnx hx hll
      go_enter Try.func67, Try.ntmps67
      go_wp2_with fail
      refine (hcf _).mono ?_
      rintro e w1 ⟨rfl, rfl⟩
      go_wp2_with fail
      go_ret2
      exact ⟨_, rfl, World.ownsRow_nil _ _ _ _, Below.refl _ _⟩
  · rw [if_neg hx]
    have hcf := fun w => Port.rconf_calls x w
    rw [show (decide (3 ≤ x) && decide (x ≤ 8)) = false from by simp; omega] at hcf
    clear hx hll
    go_enter Try.func67, Try.ntmps67
    go_wp2_with fail
    refine (hcf _).mono ?_
    rintro e w1 ⟨rfl, rfl⟩
    go_wp2_with fail
    go_ret2
    exact ⟨_, rfl, World.ownsRow_nil _ _ _ _, Below.refl _ _⟩
end Go.Proofs.Ytpbkoooljelhjaa
