/-
  The statements' own fixed fact on looks.
-/
import Derived.Test.YtpbkoooljelhjaaSync4
import Derived.Deep.AppendLies
namespace Go.Proofs.Ytpbkoooljelhjaa
set_option linter.unusedVariables false
set_option linter.unusedSimpArgs false
open Go.RowKit

theorem Sy.infoLook : (Try.prog.info? 77).map (fun i => (i.zero, i.size, i.bytes)) = some (some (.agg #[.int .i64 0, .int .i64 0, .int .i64 0, .int .i64 0, .int .i64 0, .slice none 0 0]), 6, 64) := by kernel_rfl
theorem Sy.lk_there {w : World} {A : Option Addr} {p q : Int} (h : Nodes w A 3 (Sy.duo p q)) (hp : 0 ≤ p ∧ p < 3) (hq : 0 ≤ q ∧ q < 3) : (Sy.lk A p q).There w :=
  ⟨by simp [Sy.lk], by simp [Sy.lk, Fr.none, Fr.fits], by simp [Sy.lk, Fr.none, Fr.fits], by show 3 ≤ maxLen; unfold maxLen; omega, h, fun z hz => by
    have hz' : z = ⟨0, 3, 0, p⟩ ∨ z = ⟨1, 3, 0, q⟩ ∨ z = ⟨2, 3, 0, p⟩ := by have : z ∈ Sy.duo p q := hz; simpa [Sy.duo] using this
    unfold Nd.fits
    rcases hz' with rfl | rfl | rfl <;> simp only <;> omega⟩
theorem Sy.lk_may {A : Option Addr} {p q : Int} (hp : 0 ≤ p ∧ p < 3) (hq : 0 ≤ q ∧ q < 3) : (Sy.lk A p q).nodes.length = 3 ∧ ∀ z ∈ (Sy.lk A p q).nodes, 0 ≤ z.ps ∧ z.ps < ((3 : Nat) : Int) :=
  ⟨rfl, fun z hz => by
    have hz' : z = ⟨0, 3, 0, p⟩ ∨ z = ⟨1, 3, 0, q⟩ ∨ z = ⟨2, 3, 0, p⟩ := by have : z ∈ Sy.duo p q := hz; simpa [Sy.duo] using this
    rcases hz' with rfl | rfl | rfl <;> simp only <;> omega⟩
theorem Sy.ex_at (A B C : Option Addr) : Sy.IsAt 3 0 0 [Sy.lk A 2 2, Sy.lk B 0 0, Sy.lk C 1 1] 0 :=
  ⟨by omega, fun k _ hk => by
    have hk' : k = 0 ∨ k = 1 ∨ k = 2 := by simp at hk; omega
    rcases hk' with rfl | rfl | rfl
    · exact ⟨rfl, fun _ p hp => by
        have h1 : Sy.slotAt 0 0 [Sy.lk A 2 2, Sy.lk B 0 0, Sy.lk C 1 1] 0 = some 2 := rfl
        rw [h1] at hp; injection hp with hp; subst hp; rfl⟩
    · exact ⟨rfl, fun _ p hp => by
        have h1 : Sy.slotAt 0 0 [Sy.lk A 2 2, Sy.lk B 0 0, Sy.lk C 1 1] 1 = some 0 := rfl
        rw [h1] at hp; injection hp with hp; subst hp; rfl⟩
    · exact ⟨rfl, fun h => absurd h (by simp)⟩, fun h => absurd h (by omega)⟩
theorem Sy.ex_split (A B C D : Option Addr) : Sy.split 0 0 [Sy.lk A 2 2, Sy.lk B 0 0, Sy.lk C 1 1, Sy.lk D 2 0] = some 3 := rfl
def Sy.flat (A B C : Option Addr) : List Value := [.int .i64 0, .int .i64 0, .int .i64 0, .int .i64 0, .int .i64 0, .slice A 3 3, .int .i64 0, .int .i64 0, .int .i64 0, .int .i64 0, .int .i64 0, .slice B 3 3, .int .i64 0, .int .i64 0, .int .i64 0, .int .i64 0, .int .i64 0, .slice C 3 3]

set_option maxHeartbeats 4000000 in
set_option maxRecDepth 100000 in
/-- daybreaklaw21.awake. -/
theorem Sy.awake_calls (w : World) : Calls Try.prog 55 #[] w fun e w' => e = .returned (.bool true) ∧ Below w.heap.size w w' := by
  obtain ⟨i0, hi, hz0, hz1, hz2⟩ := info_parts Sy.infoLook
  go_enter Try.func55, Try.ntmps55
  go_wp2_with fail
  refine (Sy.two_calls 2 2 _).mono ?_
  rintro e w1 ⟨A1, rfl, n1, b1, _⟩
  have B1 := Lib.hid b1
  have N1 := Lib.hid n1
  clear b1 n1
  go_wp2_with fail
  refine (Sy.two_calls 0 0 _).mono ?_
  rintro e w2 ⟨A2, rfl, n2, b2, _⟩
  have B2 := Lib.hid (Kit.chain B1.out b2)
  have N1' := Lib.hid (N1.out.below b2)
  have N2 := Lib.hid n2
  clear b2 n2 N1
  go_wp2_with fail
  refine (Sy.two_calls 1 1 _).mono ?_
  rintro e w3 ⟨A3, rfl, n3, b3, _⟩
  have B3 := Lib.hid (Kit.chain B2.out b3)
  have bal := fun (cs : Array Value) (T : TypeId) => Kit.alloc1 w3 cs T
  have M1 := Lib.hid (N1'.out.below b3)
  have M2 := Lib.hid (N2.out.below b3)
  have M3 := Lib.hid n3
  clear b3 n3 N1' N2
  have hlies : Lies (w3.alloc (.cells (Sy.flat A1 A2 A3).toArray 77)) (some ⟨w3.heap.size, 0, none⟩) 3 6 ([Sy.lk A1 2 2, Sy.lk A2 0 0, Sy.lk A3 1 1].map Lk.cells) :=
    Lies.built w3 _ 77 6 3 _ rfl (by intro c hc; simp at hc; rcases hc with rfl | rfl | rfl <;> rfl) rfl
  have hlk : Looks (w3.alloc (.cells (Sy.flat A1 A2 A3).toArray 77)) (some ⟨w3.heap.size, 0, none⟩) 3 [Sy.lk A1 2 2, Sy.lk A2 0 0, Sy.lk A3 1 1] :=
    ⟨hlies, fun z hz => by
      simp at hz
      rcases hz with rfl | rfl | rfl
      · exact (Sy.lk_there M1.out (by omega) (by omega)).below (bal _ _)
      · exact (Sy.lk_there M2.out (by omega) (by omega)).below (bal _ _)
      · exact (Sy.lk_there M3.out (by omega) (by omega)).below (bal _ _)⟩
  have hmay : Sy.May 3 [Sy.lk A1 2 2, Sy.lk A2 0 0, Sy.lk A3 1 1] := ⟨by omega, by omega, by simp, fun x hx => by
    simp at hx
    rcases hx with rfl | rfl | rfl
    · exact Sy.lk_may (by omega) (by omega)
    · exact Sy.lk_may (by omega) (by omega)
    · exact Sy.lk_may (by omega) (by omega)⟩
  have k1 := Sy.there_calls 3 0 0 _ 3 3 _ _ hlk hmay (fun x hx => by simp at hx; rcases hx with rfl | rfl | rfl <;> (show 3 ≤ 1000000; omega))
  have HLK := Lib.hid hlk
  clear hlies hlk hmay bal
  simp only [Sy.flat] at k1 HLK
  go_wp2_with fail
  refine k1.mono ?_
  clear k1
  rintro e w4 ⟨a, ha, rfl, b4⟩
  obtain rfl := Sy.IsAt.unique ha (Sy.ex_at A1 A2 A3)
  have HV : Sy.thereV [Sy.lk A1 2 2, Sy.lk A2 0 0, Sy.lk A3 1 1] 0 = .tuple #[.int .i64 0, .bool true] := rfl
  rw [HV]
  have hrow := Kit.own_below (World.ownsRow_lit (base := w.heap.size) (e := 77) (size := 6) w3 #[.int .i64 0, .int .i64 0, .int .i64 0, .int .i64 0, .int .i64 0, .slice A1 3 3, .int .i64 0, .int .i64 0, .int .i64 0, .int .i64 0, .int .i64 0, .slice A2 3 3, .int .i64 0, .int .i64 0, .int .i64 0, .int .i64 0, .int .i64 0, .slice A3 3 3] 3 B3.out.size (by unfold maxLen; omega) rfl) b4
  have HL4 := Lib.hid (HLK.out.below b4)
  have HS34 := Lib.hid (Kit.lt_new b4)
  have B34 := Lib.hid (Kit.chain (Kit.alloc1 ..) b4)
  have B4 := Lib.hid (Kit.chain (B3.out.alloc B3.out.size _) b4)
  clear b4 ha HV HLK
  go_wp2_with fail
  refine (Sy.two_calls 2 0 _).mono ?_
  rintro e w5 ⟨A4, rfl, n5, b5, g4, rfl, hg4⟩
  have hrow5 := Kit.own_below hrow b5
  have B5 := Lib.hid (Kit.chain B4.out b5)
  have HL5 := Lib.hid (HL4.out.below b5)
  have N5 := Lib.hid n5
  have B35 := Lib.hid (Kit.chain B34.out b5)
  have HS35 := Lib.hid (Nat.lt_of_lt_of_le HS34.out b5.size)
  clear hrow b5 n5 HL4
  go_wp2_with (at_builtin; go_loud (refine wpList_append_own _ rfl (.tmp 20) (.tmp 22) 65 rfl w.heap.size 77 i0 (.agg #[.int .i64 0, .int .i64 0, .int .i64 0, .int .i64 0, .int .i64 0, .slice none 0 0]) 6 64 Try.underlying65 hi hz0 hz1 hz2 rfl (by decide) _ _ _ rfl (hrow5.alloc _) ⟨w5.heap.size, 0, none⟩ 1 1 [.int .i64 0, .int .i64 0, .int .i64 0, .int .i64 0, .int .i64 0, .slice (some ⟨g4, 0, none⟩) 3 3] rfl rfl ?c0 ?c1 ?c2 ?c3 ?c4 ?_))
  case c0 => exact World.news_of_block (heap_alloc_new w5 _)
  case c1 => intro u hu; simp at hu; rcases hu with rfl | rfl <;> rfl
  case c2 => unfold maxLen; omega
  case c3 => omega
  case c4 => have := B5.out.size; first | omega | (simp; omega)
  intro v' w6 hown' hgrow _
  have b6 : Below w3.heap.size w5 w6 := ((Below.refl w3.heap.size w5).alloc (by have := HS35.out; omega) _).grown hgrow (by have := HS35.out; first | omega | (simp; omega)) (fun q hq => Nat.le_of_eq (by simpa [Value.ownBlock] using hq))
  have hl4 : ∃ A c, v' = .slice A 4 c ∧ Lies w6 A 4 6 ([Sy.lk A1 2 2, Sy.lk A2 0 0, Sy.lk A3 1 1, Sy.lk (some ⟨g4, 0, none⟩) 2 0].map Lk.cells) :=
    Lies.of_own (base := w.heap.size) (ll := [Sy.lk A1 2 2, Sy.lk A2 0 0, Sy.lk A3 1 1, Sy.lk (some ⟨g4, 0, none⟩) 2 0].map Lk.cells) (k := 6) (e := 77) (by intro c hc; obtain ⟨z, _, rfl⟩ := List.mem_map.1 hc; rfl) hown'
  obtain ⟨A6, c6, rfl, hlies6⟩ := hl4
  have n6 : Nodes w6 (some ⟨g4, 0, none⟩) 3 (Sy.duo 2 0) := Lies.grown (N5.out.below (Kit.alloc1 ..)) hgrow (fun b off s hb hr => by
    have hr' : w3.heap.size = b := by simpa [Value.ownBlock] using hr
    injection hb with hb
    injection hb with hb _ _
    have := HS34.out
    omega)
  have B36 := Lib.hid (B35.out.trans (b6.mono (Nat.le_refl _)))
  have hlk6 : Looks w6 A6 4 [Sy.lk A1 2 2, Sy.lk A2 0 0, Sy.lk A3 1 1, Sy.lk (some ⟨g4, 0, none⟩) 2 0] :=
    ⟨hlies6, fun z hz => by
      simp at hz
      rcases hz with rfl | rfl | rfl | rfl
      · exact (Sy.lk_there M1.out (by omega) (by omega)).below B36.out
      · exact (Sy.lk_there M2.out (by omega) (by omega)).below B36.out
      · exact (Sy.lk_there M3.out (by omega) (by omega)).below B36.out
      · exact Sy.lk_there n6 (by omega) (by omega)⟩
  have k2 := Sy.split_calls 0 0 A6 4 c6 _ w6 hlk6 (by omega) (fun x hx => by simp at hx; rcases hx with rfl | rfl | rfl | rfl <;> (show 3 ≤ 1000000; omega))
  rw [Sy.ex_split] at k2
  have k3 := fun W => Sy.there_calls 3 0 0 none 0 0 [] W ⟨⟨rfl, fun h => absurd h (by omega)⟩, fun z hz => by simp at hz⟩ ⟨by omega, by omega, by simp, fun x hx => by simp at hx⟩ (fun x hx => by simp at hx)
  have B6 := Lib.hid (B3.out.trans (B36.out.mono B3.out.size))
  simp only [Sy.firstV, Option.getD_some, Option.isSome_some] at k2
  clear hown' hgrow hlies6 n6 hlk6 hrow5 b6 hg4
  go_wp2_with fail
  refine k2.mono ?_
  clear k2
  rintro e w7 ⟨rfl, b7⟩
  have B7 := Lib.hid (Kit.chain B6.out b7)
  clear b7
  go_wp2_with fail
  refine (k3 _).mono ?_
  clear k3
  rintro e w8 ⟨a8, ha8, rfl, b8⟩
  have h80 : a8 = 0 := by have := ha8.le; simpa using this
  subst h80
  have HV : Sy.thereV [] 0 = .tuple #[.int .i64 0, .bool false] := rfl
  rw [HV]
  clear ha8 HV
  have B8 := Lib.hid (Kit.chain B7.out b8)
  clear b8
  go_wp2_with fail
  go_ret
  exact ⟨rfl, B8.out⟩
end Go.Proofs.Ytpbkoooljelhjaa
