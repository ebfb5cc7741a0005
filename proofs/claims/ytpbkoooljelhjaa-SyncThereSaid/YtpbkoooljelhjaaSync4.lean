/-
  The walks of the statements' own helpers: looks that may be, a look of two slots, one slot, the fixed fact.
-/
import Derived.Test.YtpbkoooljelhjaaSync3
import Derived.Test.YtpbkoooljelhjaaPort1
namespace Go.Proofs.Ytpbkoooljelhjaa
set_option linter.unusedVariables false
set_option linter.unusedSimpArgs false
open Go.RowKit

/-- A row of the call's own, read as a slice. -/
theorem Lies.of_own {w : World} {base k : Nat} {e : TypeId} {v : Value} {ll : List (List Value)} (hk : ∀ c ∈ ll, c.length = k) (h : w.ownsRow base e k v ll.length ll.flatten) : ∃ A c, v = .slice A ll.length c ∧ Lies w A ll.length k ll := by
  rcases Nat.eq_zero_or_pos ll.length with h0 | h0
  · rcases h.2 with ⟨rfl, hn⟩ | ⟨g, cap, cur, rfl, _⟩
    · exact ⟨none, 0, by rw [hn], rfl, fun hp => absurd hp (by omega)⟩
    · exact ⟨_, cap, rfl, rfl, fun hp => absurd hp (by omega)⟩
  · obtain ⟨g, cap, rfl, _, hg⟩ := h.form h0
    refine ⟨_, cap, rfl, rfl, fun _ => ⟨g, 0, rfl, hg, fun j c hj i v hv => ?_⟩⟩
    have h1 : ll.flatten[j * k + i]? = some v := flat_get k ll hk j c hj i v hv
    have hlt : j * k + i < ll.length * k := by have := (List.getElem?_eq_some_iff.1 h1).1; rw [h.1] at this; exact this
    rw [Nat.zero_add, h.cellAt _ hlt]
    exact h1

theorem Lies.grown {w w' : World} {row : Option Nat} {A : Option Addr} {n k : Nat} {cs : List (List Value)} (h : Lies w A n k cs) (hg : w.grownBy w' row) (hne : ∀ b off s, A = some ⟨b, off, s⟩ → row ≠ some b) : Lies w' A n k cs where
  len := h.len
  at_ := fun hn => by
    obtain ⟨b, off, e, hlt, hc⟩ := h.at_ hn
    exact ⟨b, off, e, Nat.lt_of_lt_of_le hlt hg.size, fun j c hj i v hi => hg.cell (hc j c hj i v hi) (fun h => hne b off none e h.symm)⟩
/-- Three nodes of two slots. -/
def Sy.duo (p q : Int) : List Nd := [⟨0, 3, 0, p⟩, ⟨1, 3, 0, q⟩, ⟨2, 3, 0, p⟩]
def Sy.lk (A : Option Addr) (p q : Int) : Lk := ⟨0, Fr.none, Fr.none, A, 3, 3, Sy.duo p q⟩
def Sy.TwoSays (p q : Int) (w : World) (e : Ending) (w' : World) : Prop :=
  ∃ A, e = .returned (.agg #[.int .i64 0, .int .i64 0, .int .i64 0, .int .i64 0, .int .i64 0, .slice A 3 3]) ∧ Nodes w' A 3 (Sy.duo p q) ∧ Below w.heap.size w w' ∧ ∃ b, A = some ⟨b, 0, none⟩ ∧ w.heap.size ≤ b

set_option maxHeartbeats 1000000 in
set_option maxRecDepth 100000 in
theorem Sy.two_calls (p q : Int) (w : World) : Calls Try.prog 97 #[.int .i64 p, .int .i64 q] w (Sy.TwoSays p q w) := by
  go_enter Try.func97, Try.ntmps97
  go_wp2_with fail
  refine bodyPost_ret (v := .agg #[.int .i64 0, .int .i64 0, .int .i64 0, .int .i64 0, .int .i64 0, .slice (some ⟨w.heap.size + 1, 0, none⟩) 3 3]) (by simp [results, Try.results97, go_sem]) rfl ⟨_, rfl, ?_, ?_, _, rfl, by simp⟩
  · have := Lies.built (w.alloc (.cells #[.int .i64 0, .int .i64 0, .int .i64 0, .int .i64 0, .int .i64 0, .slice (some ⟨w.heap.size + 1, 0, none⟩) 3 3] 77)) #[.int .i64 0, .int .i64 3, .int .i64 0, .int .i64 p, .int .i64 1, .int .i64 3, .int .i64 0, .int .i64 q, .int .i64 2, .int .i64 3, .int .i64 0, .int .i64 p] 45 4 3 ((Sy.duo p q).map Nd.cells) rfl (by intro c hc; simp [Sy.duo] at hc; rcases hc with rfl | rfl | rfl <;> rfl) rfl
    rw [show (w.alloc (.cells #[.int .i64 0, .int .i64 0, .int .i64 0, .int .i64 0, .int .i64 0, .slice (some ⟨w.heap.size + 1, 0, none⟩) 3 3] 77)).heap.size = w.heap.size + 1 by simp] at this
    exact this
  · exact Kit.alloc2 ..

def Sy.MaySays (n : Int) (l : List Lk) (w : World) (e : Ending) (w' : World) : Prop := ∃ b : Bool, e = .returned (.bool b) ∧ (b = true → ∃ m : Nat, n = (m : Int) ∧ Sy.May m l) ∧ w = w'

set_option maxHeartbeats 4000000 in
set_option maxRecDepth 100000 in
/-- daybreaklaw21.may. -/
theorem Sy.may_calls (n : Int) (A : Option Addr) (len cap : Nat) (l : List Lk) (w : World) (hl : Looks w A len l) (hlen : len ≤ 9223372036854775807) :
    Calls Try.prog 54 #[.int .i64 n, .slice A len cap] w (Sy.MaySays n l w) := by
  have HL := Lib.hid hl
  have hll := hl.len
  have HLL := Lib.hid hll
  clear hl hll
  by_cases hn : 3 ≤ n ∧ n ≤ 8
  · obtain ⟨hn3, hn8⟩ := hn
    have c0 := fun W => Port.rconf_calls n W
    rw [decide_eq_true hn3, decide_eq_true hn8] at c0
    obtain ⟨m, rfl⟩ := Int.eq_ofNat_of_zero_le (show 0 ≤ n by omega)
    by_cases h60 : len ≤ 60
    · have g0 : decide ((60 : Int) < (len : Int)) = false := by simp; omega
      go_enter Try.func54, Try.ntmps54
      go_wp2_with fail
      refine (c0 _).mono ?_
      rintro e w1 ⟨rfl, rfl⟩
      go_wp2_with fail
      go_loop [5, 6] (fun vi _ => ∃ k : Nat, k ≤ len ∧ vi = .int .i64 k ∧ Hid (∀ (j : Nat) (x : Lk), j < k → l[j]? = some x → x.nodes.length = m ∧ ∀ z ∈ x.nodes, 0 ≤ z.ps ∧ z.ps < (m : Int))) (fun vi _ => len - (intOf vi).toNat)
      case atStart => exact ⟨0, by omega, rfl, Lib.hid (fun j x h => absurd h (by omega))⟩
      case round =>
        obtain ⟨k, hk, rfl, HA⟩ := hrel
        by_cases hlt : k < len
        · obtain ⟨b, off, rfl, hb, hrow⟩ := HL.out.row (by omega)
          have hkl : k < l.length := by rw [HLL.out]; exact hlt
          obtain ⟨x, hx⟩ : ∃ x, l[k]? = some x := ⟨_, List.getElem?_eq_getElem hkl⟩
          have m5 := (hrow k x hx).2.2.2.2.2
          have HX := Lib.hid hx
          have hth := HL.out.there x (List.mem_of_getElem? hx)
          have hxl := hth.nodes.len
          have hxr := hth.nodes.row
          have hxm := hth.most
          clear hrow hx hth
          obtain ⟨xt, ⟨x0k, x0i⟩, ⟨x1k, x1i⟩, xA, xn, xc, xs⟩ := x
          simp only at m5 hxl hxr hxm
          have HXL := Lib.hid hxl
          have HXR := Lib.hid hxr
          unfold maxLen at hxm
          clear hxl hxr
          by_cases hxn : xn = m
          · have g1 : ((xn : Int) != (m : Int)) = false := by rw [bne_eq_false_iff_eq]; omega
            subst hxn
            go_wp2_with fail
            go_loop [6] (fun vj => ∃ j : Nat, j ≤ xn ∧ vj = .int .i64 j ∧ Hid (∀ (i : Nat) (z : Nd), i < j → xs[i]? = some z → 0 ≤ z.ps ∧ z.ps < (xn : Int))) (fun vj => xn - (intOf vj).toNat)
            case atStart => exact ⟨0, by omega, rfl, Lib.hid (fun i z h => absurd h (by omega))⟩
            case round =>
              obtain ⟨j, hj, rfl, HZ⟩ := hrel
              by_cases hjn : j < xn
              · obtain ⟨b2, off2, rfl, hb2, hrow2⟩ := HXR.out (by omega)
                obtain ⟨z, hz⟩ : ∃ z, xs[j]? = some z := ⟨_, List.getElem?_eq_getElem (by rw [HXL.out]; exact hjn)⟩
                have n3 := (hrow2 j z hz).2.2.2
                have HZj := Lib.hid hz
                clear hrow2 hz
                obtain ⟨zi, zm, zc, zp⟩ := z
                simp only at n3
                by_cases hp0 : zp < 0
                · have g2 : decide (zp < 0) = true := decide_eq_true hp0
                  clear hp0
                  go_wp2_with fail
                  go_ret
                  exact ⟨false, rfl, by simp, rfl⟩
                · have g2 : decide (zp < 0) = false := decide_eq_false hp0
                  by_cases hp1 : (xn : Int) ≤ zp
                  · have g3 : decide ((xn : Int) ≤ zp) = true := decide_eq_true hp1
                    clear hp0 hp1
                    go_wp2_with fail
                    go_ret
                    exact ⟨false, rfl, by simp, rfl⟩
                  · have g3 : decide ((xn : Int) ≤ zp) = false := decide_eq_false hp1
                    have HZ2 : Hid (∀ (i : Nat) (z : Nd), i < j + 1 → xs[i]? = some z → 0 ≤ z.ps ∧ z.ps < (xn : Int)) := Lib.hid (fun i z hi hz => by
                      by_cases e : i = j
                      · subst e; rw [HZj.out] at hz; injection hz with hz; rw [← hz]; exact ⟨by show 0 ≤ zp; omega, by show zp < xn; omega⟩
                      · exact HZ.out i z (by omega) hz)
                    clear hp0 hp1
                    go_wp2_with fail
                    go_round
                    case rel => exact ⟨j + 1, by omega, by go_num, HZ2⟩
                    case measure => simp [intOf]; omega
              · obtain rfl : j = xn := by omega
                have HA2 : Hid (∀ (i : Nat) (x : Lk), i < k + 1 → l[i]? = some x → x.nodes.length = j ∧ ∀ z ∈ x.nodes, 0 ≤ z.ps ∧ z.ps < (j : Int)) := Lib.hid (fun i x hi hx => by
                  by_cases e : i = k
                  · subst e
                    rw [HX.out] at hx
                    injection hx with hx
                    rw [← hx]
                    refine ⟨HXL.out, fun z hz => ?_⟩
                    obtain ⟨i2, hi2⟩ := List.mem_iff_getElem?.1 hz
                    refine HZ.out i2 z ?_ hi2
                    have h1 := (List.getElem?_eq_some_iff.1 hi2).1
                    have h2 := HXL.out
                    simp only at h1
                    omega
                  · exact HA.out i x (by omega) hx)
                go_wp2_with fail
                go_round
                case rel => exact ⟨k + 1, by omega, by go_num, HA2⟩
                case measure => simp [intOf]; omega
          · have g1 : ((xn : Int) != (m : Int)) = true := by rw [bne_iff_ne]; omega
            have hxn' : ¬ xn = m := hxn
            go_wp2_with fail
            go_ret
            exact ⟨false, rfl, by simp, rfl⟩
        · obtain rfl : k = len := by omega
          go_wp2_with fail
          go_ret
          refine ⟨true, rfl, fun _ => ⟨m, rfl, by omega, by omega, by rw [HLL.out]; exact h60, fun x hx => ?_⟩, rfl⟩
          obtain ⟨i, hi⟩ := List.mem_iff_getElem?.1 hx
          exact HA.out i x (by have := (List.getElem?_eq_some_iff.1 hi).1; rw [HLL.out] at this; exact this) hi
    · have g0 : decide ((60 : Int) < (len : Int)) = true := by simp; omega
      clear h60
      go_enter Try.func54, Try.ntmps54
      go_wp2_with fail
      refine (c0 _).mono ?_
      rintro e w1 ⟨rfl, rfl⟩
      go_wp2_with fail
      go_ret
      exact ⟨false, rfl, by simp, rfl⟩
  · have c0 := fun W => Port.rconf_calls n W
    have hd : (decide (3 ≤ n) && decide (n ≤ 8)) = false := by simp; omega
    rw [hd] at c0
    clear hn hd
    go_enter Try.func54, Try.ntmps54
    go_wp2_with fail
    refine (c0 _).mono ?_
    rintro e w1 ⟨rfl, rfl⟩
    go_wp2_with fail
    go_ret
    exact ⟨false, rfl, by simp, rfl⟩

set_option maxHeartbeats 1000000 in
set_option maxRecDepth 100000 in
/-- daybreaklaw21.one. -/
theorem Sy.one_calls (c v : Int) (x : Lk) (w : World) (hx : x.There w) (hn : x.n ≤ 1000000) :
    Calls Try.prog 64 #[.agg #[.int .i64 c, .int .i64 v], .agg #[.int .i64 x.tick, .int .i64 x.r0.k, .int .i64 x.r0.i, .int .i64 x.r1.k, .int .i64 x.r1.i, .slice x.at_ x.n x.cap]] w fun e w' => e = .returned (.bool (Vw.slot c v x.nodes).isSome) ∧ Below w.heap.size w w' := by
  have k1 := fun W (hW : Below w.heap.size w W) => Vw.rslot_calls c v x.at_ x.n x.cap x.nodes W (hx.nodes.below hW) hn
  have K1 := Lib.hid k1
  clear hx k1 hn
  obtain ⟨xt, ⟨x0k, x0i⟩, ⟨x1k, x1i⟩, xA, xn, xc, xs⟩ := x
  simp only [Vw.slotV] at K1 ⊢
  generalize (Vw.slot c v xs).getD 0 = s1 at *
  generalize (Vw.slot c v xs).isSome = s2 at *
  go_enter Try.func64, Try.ntmps64
  go_wp2_with fail
  refine (K1.out _ (Kit.alloc2 ..)).mono ?_
  rintro e w1 ⟨rfl, b1⟩
  have B1 := Lib.hid (Kit.chain (Kit.alloc2 ..) b1)
  clear b1
  go_wp2_with fail
  go_ret
  exact ⟨rfl, B1.out⟩
end Go.Proofs.Ytpbkoooljelhjaa
