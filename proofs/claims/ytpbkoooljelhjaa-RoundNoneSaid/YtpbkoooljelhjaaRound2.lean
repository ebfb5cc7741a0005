/-
  The walks of package round, second part: Order, Wrong.
-/
import Derived.Test.YtpbkoooljelhjaaRound1
import Derived.Deep.RegionHeld3
namespace Go.Proofs.Ytpbkoooljelhjaa
set_option linter.unusedVariables false
set_option linter.unusedSimpArgs false
open Go.RowKit

theorem Rd.order_none {c v : Int} {l : List Nd} (a b : Fr) (h : Vw.slot c v l = none) : Rd.order c v l a b = false := by unfold Rd.order; rw [h]
theorem Rd.order_some {c v : Int} {l : List Nd} {s : Int} (a b : Fr) (h : Vw.slot c v l = some s) : Rd.order c v l a b = !(Rd.relayed c v a b).any (Rd.bad s (Rd.owner c v l s)) := by unfold Rd.order; rw [h]

set_option maxHeartbeats 4000000 in
set_option maxRecDepth 100000 in
/-- round.Order. -/
theorem Rd.order_calls (c v t ak ai bk bi : Int) (A : Option Addr) (n cap : Nat) (l : List Nd) (N : Value) (w : World) (hl : Nodes w A n l) (hn : n ≤ 1000000) :
    Calls Try.prog 80 #[.agg #[.int .i64 c, .int .i64 v], .slice A n cap, .agg #[.int .i64 t, .int .i64 ak, .int .i64 ai, .int .i64 bk, .int .i64 bi, N]] w fun e w' => e = .returned (.bool (Rd.order c v l ⟨ak, ai⟩ ⟨bk, bi⟩)) ∧ Below w.heap.size w w' := by
  have k1 := fun W (hW : Below w.heap.size w W) => Vw.vslot_calls c v A n cap l W (hl.below hW) hn
  have k2 := fun W (hW : Below w.heap.size w W) => Vw.vactive_calls c v A n cap l W (hl.below hW) hn
  have hal : (Vw.active c v l).length ≤ 1000000 := by
    have h1 := Vw.places_len c v Vw.act l l.length
    have h2 := hl.len
    unfold Vw.active
    omega
  have K1 := Lib.hid k1
  have K2 := Lib.hid k2
  have HAL := Lib.hid hal
  clear k1 k2 hl hn hal
  cases hs : Vw.slot c v l with
  | none =>
    rw [Rd.order_none _ _ hs]
    rw [hs] at K1
    simp only [Vw.slotV, Option.getD_none, Option.isSome_none] at K1
    clear hs
    go_enter Try.func80, Try.ntmps80
    go_wp2_with fail
    refine (K1.out _ (Kit.alloc2 ..)).mono ?_
    rintro e w1 ⟨rfl, b1⟩
    have B1 := Lib.hid (Kit.chain (Kit.alloc2 ..) b1)
    have hlt := b1.size
    simp at hlt
    clear b1
    go_wp2_with fail
    go_ret
    exact ⟨rfl, B1.out.alloc B1.out.size _⟩
  | some s =>
    rw [Rd.order_some _ _ hs]
    rw [hs] at K1
    simp only [Vw.slotV, Option.getD_some, Option.isSome_some] at K1
    clear hs
    have hrl : (Rd.relayed c v ⟨ak, ai⟩ ⟨bk, bi⟩).length ≤ 1000000 := by unfold Rd.relayed Rd.pick; simp; split <;> split <;> simp
    have KR := Lib.hid (fun W => Rd.relayed_calls c v t ⟨ak, ai⟩ ⟨bk, bi⟩ N W)
    have HRL := Lib.hid hrl
    have HOW : Hid (Rd.owner c v l s = (Vw.active c v l).any fun (i : Nat) => (i : Int) == s) := Lib.hid rfl
    clear hrl
    unfold Vw.Row at K2
    simp only at KR
    generalize Rd.relayed c v ⟨ak, ai⟩ ⟨bk, bi⟩ = rl at *
    generalize Rd.owner c v l s = must at *
    generalize Vw.active c v l = on at *
    go_enter Try.func80, Try.ntmps80
    go_wp2_with fail
    refine (K1.out _ (Kit.alloc2 ..)).mono ?_
    rintro e w1 ⟨rfl, b1⟩
    have c0 := Kit.cell_old b1 0 rfl
    have c1 := Kit.cell_old b1 1 rfl
    have l0 := Kit.cell_two b1 0 rfl
    have l1 := Kit.cell_two b1 1 rfl
    have l2 := Kit.cell_two b1 2 rfl
    have l3 := Kit.cell_two b1 3 rfl
    have l4 := Kit.cell_two b1 4 rfl
    have l5 := Kit.cell_two b1 5 rfl
    have hw1 := Kit.lt_two b1
    have hw0 : w.heap.size < w1.heap.size := by omega
    have B1 := Lib.hid (Kit.chain (Kit.alloc2 ..) b1)
    clear b1
    go_wp2_with fail
    have BA : Below w.heap.size w (w1.alloc (.cells #[.int .i64 s] 3)) := B1.out.alloc B1.out.size _
    have a0 := Kit.cell_below (Kit.alloc1 w1 #[.int .i64 s] 3) c0
    have a1 := Kit.cell_below (Kit.alloc1 w1 #[.int .i64 s] 3) c1
    have aS : (w1.alloc (.cells #[.int .i64 s] 3)).cell? ⟨w1.heap.size, 0, none⟩ = some (.int .i64 s) := World.cell?_alloc_new ..
    replace l0 := Kit.cell_below (Kit.alloc1 w1 #[.int .i64 s] 3) l0
    replace l1 := Kit.cell_below (Kit.alloc1 w1 #[.int .i64 s] 3) l1
    replace l2 := Kit.cell_below (Kit.alloc1 w1 #[.int .i64 s] 3) l2
    replace l3 := Kit.cell_below (Kit.alloc1 w1 #[.int .i64 s] 3) l3
    replace l4 := Kit.cell_below (Kit.alloc1 w1 #[.int .i64 s] 3) l4
    replace l5 := Kit.cell_below (Kit.alloc1 w1 #[.int .i64 s] 3) l5
    have ne1 : ¬ w.heap.size = w1.heap.size + 1 := by omega
    have ne2 : ¬ w1.heap.size + 1 = w.heap.size := by omega
    have ne3 : ¬ w.heap.size = w1.heap.size := by omega
    have ne4 : ¬ w.heap.size + 1 = w1.heap.size := by omega
    have ne5 : ¬ w.heap.size + 1 = w1.heap.size + 1 := by omega
    have hs1 : w1.heap.size < (w1.alloc (.cells #[.int .i64 s] 3)).heap.size := by simp
    refine wp_region_held_drew (S := (fun w' => w'.cell? ⟨w.heap.size, 0, none⟩ = some (.int .i64 c) ∧ w'.cell? ⟨w.heap.size, 1, none⟩ = some (.int .i64 v) ∧ w'.cell? ⟨w1.heap.size, 0, none⟩ = some (.int .i64 s))) (by kernel_rfl) ?_ (fun hHeld => ?_)
    · go_keep
    refine Rgn.take 0 (v := ?_) rfl (by kernel_rfl) (by kernel_rfl) (by kernel_rfl) (fun _ _ _ h => h) (by kernel_rfl) ?_ (by assumption) ?_
    rotate_left
    · intro w hSw
      (try dsimp only at hSw)
      go_simp
      try with_reducible rfl
    try simp only [Act.put, List.setIfInBounds_toArray, List.set_cons_zero, List.set_cons_succ]
    refine Rgn.take 1 (v := ?_) rfl (by kernel_rfl) (by kernel_rfl) (by kernel_rfl) (fun _ _ _ h => h) (by kernel_rfl) ?_ (by assumption) ?_
    rotate_left
    · intro w hSw
      (try dsimp only at hSw)
      go_simp
      try with_reducible rfl
    try simp only [Act.put, List.setIfInBounds_toArray, List.set_cons_zero, List.set_cons_succ]
    refine Rgn.take 3 (v := ?_) rfl (by kernel_rfl) (by kernel_rfl) (by kernel_rfl) (fun _ _ _ h => h) (by kernel_rfl) ?_ (by assumption) ?_
    rotate_left
    · intro w hSw
      (try dsimp only at hSw)
      go_simp
      try with_reducible rfl
    try simp only [Act.put, List.setIfInBounds_toArray, List.set_cons_zero, List.set_cons_succ]
    refine Rgn.two 2 5 rfl rfl (by kernel_rfl) (fun K hK => ?_) (fun K hK => ?_)
    · go_simp
      refine (K2.out _ BA.drew).mono ?_
      rintro e w2 ⟨v2, rfl, hown, b2⟩
      obtain ⟨A2, cap2, rfl, hi2⟩ := Vw.Ints.of_own hown
      have HI := Lib.hid hi2
      clear hown hi2
      replace a0 := Kit.cell_below b2 a0
      replace a1 := Kit.cell_below b2 a1
      replace aS := Kit.cell_below b2 aS
      replace l0 := Kit.cell_below b2 l0
      replace l1 := Kit.cell_below b2 l1
      replace l2 := Kit.cell_below b2 l2
      replace l3 := Kit.cell_below b2 l3
      replace l4 := Kit.cell_below b2 l4
      replace l5 := Kit.cell_below b2 l5
      have z2a := World.block_lt_of_cell? w2 ⟨w.heap.size, 0, none⟩ a0
      have z2b := World.block_lt_of_cell? w2 ⟨w.heap.size + 1, 0, none⟩ l0
      have z2c := World.block_lt_of_cell? w2 ⟨w1.heap.size, 0, none⟩ aS
      simp only at z2a z2b z2c
      have ne6 : ¬ w.heap.size = w2.heap.size := by omega
      have ne7 : ¬ w.heap.size + 1 = w2.heap.size := by omega
      have ne8 : ¬ w1.heap.size = w2.heap.size := by omega
      have B2 := Lib.hid (BA.drew.trans (b2.mono BA.drew.size))
      clear b2
      try go_simp
      refine hK.out _ _ ?_ (fun hHeld => ?_)
      · first | go_keep | ((try dsimp only); (repeat' apply And.intro) <;> first | assumption | go_simp)
      clear hK K
      try simp only [Act.put, List.setIfInBounds_toArray, List.set_cons_zero, List.set_cons_succ]
      refine Rgn.two 4 5 rfl rfl (by kernel_rfl) (fun K hK => ?_) (fun K hK => ?_)
      · go_simp
        refine (Rd.contains_calls A2 on.length cap2 on s _ HI.out HAL.out).mono ?_
        rintro e w3 ⟨rfl, b3⟩
        have BQ := B2.out
        rw [← HOW.out]
        replace a0 := Kit.cell_below b3 a0
        replace a1 := Kit.cell_below b3 a1
        replace aS := Kit.cell_below b3 aS
        replace l0 := Kit.cell_below b3 l0
        replace l1 := Kit.cell_below b3 l1
        replace l2 := Kit.cell_below b3 l2
        replace l3 := Kit.cell_below b3 l3
        replace l4 := Kit.cell_below b3 l4
        replace l5 := Kit.cell_below b3 l5
        have B3 := Lib.hid (BQ.trans (b3.mono BQ.size))
        clear b3 BQ
        try go_simp
        refine hK.out _ _ ?_ (fun hHeld => ?_)
        · first | go_keep | ((try dsimp only); (repeat' apply And.intro) <;> first | assumption | go_simp)
        clear hK K
        try simp only [Act.put, List.setIfInBounds_toArray, List.set_cons_zero, List.set_cons_succ]
        refine Rgn.one 5 rfl (by kernel_rfl) (fun K hK => ?_)
        go_simp
        refine hK.out _ _ ?_ (fun hHeld => ?_)
        · first | go_keep | ((try dsimp only); (repeat' apply And.intro) <;> first | assumption | go_simp)
        clear hK K
        try simp only [Act.put, List.setIfInBounds_toArray, List.set_cons_zero, List.set_cons_succ]
        refine Rgn.one 6 rfl (by kernel_rfl) (fun K hK => ?_)
        go_simp
        refine hK.out _ _ ?_ (fun hHeld => ?_)
        · first | go_keep | ((try dsimp only); (repeat' apply And.intro) <;> first | assumption | go_simp)
        clear hK K
        try simp only [Act.put, List.setIfInBounds_toArray, List.set_cons_zero, List.set_cons_succ]
        refine wpAnyH_done (by kernel_rfl) ?_ _
        replace a0 : (w3.alloc (.cells #[.bool must] 4)).cell? ⟨w.heap.size, 0, none⟩ = some (.int .i64 c) := Kit.cell_below (Kit.alloc1 ..) a0
        replace a1 : (w3.alloc (.cells #[.bool must] 4)).cell? ⟨w.heap.size, 1, none⟩ = some (.int .i64 v) := Kit.cell_below (Kit.alloc1 ..) a1
        replace aS : (w3.alloc (.cells #[.bool must] 4)).cell? ⟨w1.heap.size, 0, none⟩ = some (.int .i64 s) := Kit.cell_below (Kit.alloc1 ..) aS
        replace l0 : (w3.alloc (.cells #[.bool must] 4)).cell? ⟨w.heap.size + 1, 0, none⟩ = some (.int .i64 t) := Kit.cell_below (Kit.alloc1 ..) l0
        replace l1 : (w3.alloc (.cells #[.bool must] 4)).cell? ⟨w.heap.size + 1, 1, none⟩ = some (.int .i64 ak) := Kit.cell_below (Kit.alloc1 ..) l1
        replace l2 : (w3.alloc (.cells #[.bool must] 4)).cell? ⟨w.heap.size + 1, 2, none⟩ = some (.int .i64 ai) := Kit.cell_below (Kit.alloc1 ..) l2
        replace l3 : (w3.alloc (.cells #[.bool must] 4)).cell? ⟨w.heap.size + 1, 3, none⟩ = some (.int .i64 bk) := Kit.cell_below (Kit.alloc1 ..) l3
        replace l4 : (w3.alloc (.cells #[.bool must] 4)).cell? ⟨w.heap.size + 1, 4, none⟩ = some (.int .i64 bi) := Kit.cell_below (Kit.alloc1 ..) l4
        replace l5 : (w3.alloc (.cells #[.bool must] 4)).cell? ⟨w.heap.size + 1, 5, none⟩ = some (N) := Kit.cell_below (Kit.alloc1 ..) l5
        have dM : (w3.alloc (.cells #[.bool must] 4)).cell? ⟨w3.heap.size, 0, none⟩ = some (.bool must) := by go_simp
        have BF : Below w.heap.size w (w3.alloc (.cells #[.bool must] 4)) := B3.out.alloc B3.out.size _
        go_wp2_with fail
        refine (KR.out _).mono ?_
        rintro e w5 ⟨A5, cap5, rfl, hfr, b5⟩
        replace aS := Kit.cell_below b5 aS
        replace dM := Kit.cell_below b5 dM
        have B5 := Lib.hid (Kit.chain BF b5)
        have HFR := Lib.hid hfr
        clear b5 hfr BF a0 a1 l0 l1 l2 l3 l4 l5
        go_wp2_with fail
        refine (Hear.cfunc_calls A5 rl.length cap5 rl 111 #[.pointer (some ⟨w1.heap.size, 0, none⟩), .pointer (some ⟨w3.heap.size, 0, none⟩)] (Rd.bad s must) _ HFR.out HRL.out (Kit.enters Try.func111 (by kernel_rfl) rfl) (fun W x hW hx => Rd.bad_calls x s must _ _ W (Kit.cell_below hW aS) (Kit.cell_below hW dM))).mono ?_
        rintro e w6 ⟨rfl, b6⟩
        go_wp2_with fail
        go_ret
        exact ⟨rfl, Kit.chain B5.out b6⟩
      · go_simp
        replace a0 := Kit.cell_below (Kit.alloc1 w2 #[.bool false] 4) a0
        replace a1 := Kit.cell_below (Kit.alloc1 w2 #[.bool false] 4) a1
        replace aS := Kit.cell_below (Kit.alloc1 w2 #[.bool false] 4) aS
        replace l0 := Kit.cell_below (Kit.alloc1 w2 #[.bool false] 4) l0
        replace l1 := Kit.cell_below (Kit.alloc1 w2 #[.bool false] 4) l1
        replace l2 := Kit.cell_below (Kit.alloc1 w2 #[.bool false] 4) l2
        replace l3 := Kit.cell_below (Kit.alloc1 w2 #[.bool false] 4) l3
        replace l4 := Kit.cell_below (Kit.alloc1 w2 #[.bool false] 4) l4
        replace l5 := Kit.cell_below (Kit.alloc1 w2 #[.bool false] 4) l5
        have dD : (w2.alloc (.cells #[.bool false] 4)).cell? ⟨w2.heap.size, 0, none⟩ = some (.bool false) := by go_simp
        have fD : (w2.alloc (.cells #[.bool false] 4)).frozen? ⟨w2.heap.size, 0, none⟩ = false := by go_simp
        refine hK.out _ _ ?_ (fun hHeld => ?_)
        · first | go_keep | ((try dsimp only); (repeat' apply And.intro) <;> first | assumption | go_simp)
        clear hK K
        try simp only [Act.put, List.setIfInBounds_toArray, List.set_cons_zero, List.set_cons_succ]
        refine Rgn.one 4 rfl (by kernel_rfl) (fun K hK => ?_)
        go_simp
        refine (Rd.contains_calls A2 on.length cap2 on s _ (HI.out.below (Kit.alloc1 ..)) HAL.out).mono ?_
        rintro e w3 ⟨rfl, b3⟩
        have BQ := B2.out.alloc B2.out.size (.cells #[.bool false] 4)
        rw [← HOW.out]
        replace fD := Kit.free_below b3 dD fD
        replace a0 := Kit.cell_below b3 a0
        replace a1 := Kit.cell_below b3 a1
        replace aS := Kit.cell_below b3 aS
        replace l0 := Kit.cell_below b3 l0
        replace l1 := Kit.cell_below b3 l1
        replace l2 := Kit.cell_below b3 l2
        replace l3 := Kit.cell_below b3 l3
        replace l4 := Kit.cell_below b3 l4
        replace l5 := Kit.cell_below b3 l5
        replace dD := Kit.cell_below b3 dD
        have B3 := Lib.hid (BQ.trans (b3.mono BQ.size))
        clear b3 BQ
        try go_simp
        refine hK.out _ _ ?_ (fun hHeld => ?_)
        · first | go_keep | ((try dsimp only); (repeat' apply And.intro) <;> first | assumption | go_simp)
        clear hK K
        try simp only [Act.put, List.setIfInBounds_toArray, List.set_cons_zero, List.set_cons_succ]
        refine Rgn.one 6 rfl (by kernel_rfl) (fun K hK => ?_)
        go_simp
        refine hK.out _ _ ?_ (fun hHeld => ?_)
        · first | go_keep | ((try dsimp only); (repeat' apply And.intro) <;> first | assumption | go_simp)
        clear hK K
        try simp only [Act.put, List.setIfInBounds_toArray, List.set_cons_zero, List.set_cons_succ]
        refine wpAnyH_done (by kernel_rfl) ?_ _
        replace a0 : (w3.setCell ⟨w2.heap.size, 0, none⟩ (.bool must)).cell? ⟨w.heap.size, 0, none⟩ = some (.int .i64 c) := by go_simp
        replace a1 : (w3.setCell ⟨w2.heap.size, 0, none⟩ (.bool must)).cell? ⟨w.heap.size, 1, none⟩ = some (.int .i64 v) := by go_simp
        replace aS : (w3.setCell ⟨w2.heap.size, 0, none⟩ (.bool must)).cell? ⟨w1.heap.size, 0, none⟩ = some (.int .i64 s) := by go_simp
        replace l0 : (w3.setCell ⟨w2.heap.size, 0, none⟩ (.bool must)).cell? ⟨w.heap.size + 1, 0, none⟩ = some (.int .i64 t) := by go_simp
        replace l1 : (w3.setCell ⟨w2.heap.size, 0, none⟩ (.bool must)).cell? ⟨w.heap.size + 1, 1, none⟩ = some (.int .i64 ak) := by go_simp
        replace l2 : (w3.setCell ⟨w2.heap.size, 0, none⟩ (.bool must)).cell? ⟨w.heap.size + 1, 2, none⟩ = some (.int .i64 ai) := by go_simp
        replace l3 : (w3.setCell ⟨w2.heap.size, 0, none⟩ (.bool must)).cell? ⟨w.heap.size + 1, 3, none⟩ = some (.int .i64 bk) := by go_simp
        replace l4 : (w3.setCell ⟨w2.heap.size, 0, none⟩ (.bool must)).cell? ⟨w.heap.size + 1, 4, none⟩ = some (.int .i64 bi) := by go_simp
        replace l5 : (w3.setCell ⟨w2.heap.size, 0, none⟩ (.bool must)).cell? ⟨w.heap.size + 1, 5, none⟩ = some (N) := by go_simp
        have dM : (w3.setCell ⟨w2.heap.size, 0, none⟩ (.bool must)).cell? ⟨w2.heap.size, 0, none⟩ = some (.bool must) := by go_simp
        have BF : Below w.heap.size w (w3.setCell ⟨w2.heap.size, 0, none⟩ (.bool must)) := B3.out.setCell (by first | omega | (simp; omega)) _
        go_wp2_with fail
        refine (KR.out _).mono ?_
        rintro e w5 ⟨A5, cap5, rfl, hfr, b5⟩
        replace aS := Kit.cell_below b5 aS
        replace dM := Kit.cell_below b5 dM
        have B5 := Lib.hid (Kit.chain BF b5)
        have HFR := Lib.hid hfr
        clear b5 hfr BF a0 a1 l0 l1 l2 l3 l4 l5
        go_wp2_with fail
        refine (Hear.cfunc_calls A5 rl.length cap5 rl 111 #[.pointer (some ⟨w1.heap.size, 0, none⟩), .pointer (some ⟨w2.heap.size, 0, none⟩)] (Rd.bad s must) _ HFR.out HRL.out (Kit.enters Try.func111 (by kernel_rfl) rfl) (fun W x hW hx => Rd.bad_calls x s must _ _ W (Kit.cell_below hW aS) (Kit.cell_below hW dM))).mono ?_
        rintro e w6 ⟨rfl, b6⟩
        go_wp2_with fail
        go_ret
        exact ⟨rfl, Kit.chain B5.out b6⟩
    · go_simp
      have BB := Lib.hid (BA.alloc (by simp; omega) (.cells #[.bool false] 4)).drew
      replace a0 := Kit.cell_below (Kit.alloc1 (w1.alloc (.cells #[.int .i64 s] 3)) #[.bool false] 4) a0
      replace a1 := Kit.cell_below (Kit.alloc1 (w1.alloc (.cells #[.int .i64 s] 3)) #[.bool false] 4) a1
      replace aS := Kit.cell_below (Kit.alloc1 (w1.alloc (.cells #[.int .i64 s] 3)) #[.bool false] 4) aS
      replace l0 := Kit.cell_below (Kit.alloc1 (w1.alloc (.cells #[.int .i64 s] 3)) #[.bool false] 4) l0
      replace l1 := Kit.cell_below (Kit.alloc1 (w1.alloc (.cells #[.int .i64 s] 3)) #[.bool false] 4) l1
      replace l2 := Kit.cell_below (Kit.alloc1 (w1.alloc (.cells #[.int .i64 s] 3)) #[.bool false] 4) l2
      replace l3 := Kit.cell_below (Kit.alloc1 (w1.alloc (.cells #[.int .i64 s] 3)) #[.bool false] 4) l3
      replace l4 := Kit.cell_below (Kit.alloc1 (w1.alloc (.cells #[.int .i64 s] 3)) #[.bool false] 4) l4
      replace l5 := Kit.cell_below (Kit.alloc1 (w1.alloc (.cells #[.int .i64 s] 3)) #[.bool false] 4) l5
      have dD : ((w1.alloc (.cells #[.int .i64 s] 3)).alloc (.cells #[.bool false] 4)).drew.cell? ⟨w1.heap.size + 1, 0, none⟩ = some (.bool false) := by go_simp
      have fD : ((w1.alloc (.cells #[.int .i64 s] 3)).alloc (.cells #[.bool false] 4)).drew.frozen? ⟨w1.heap.size + 1, 0, none⟩ = false := by go_simp
      refine hK.out _ _ ?_ (fun hHeld => ?_)
      · first | go_keep | ((try dsimp only); (repeat' apply And.intro) <;> first | assumption | go_simp)
      clear hK K
      try simp only [Act.put, List.setIfInBounds_toArray, List.set_cons_zero, List.set_cons_succ]
      refine Rgn.one 2 rfl (by kernel_rfl) (fun K hK => ?_)
      go_simp
      refine (K2.out _ BB.out).mono ?_
      rintro e w2 ⟨v2, rfl, hown, b2⟩
      obtain ⟨A2, cap2, rfl, hi2⟩ := Vw.Ints.of_own hown
      have HI := Lib.hid hi2
      clear hown hi2
      replace fD := Kit.free_below b2 dD fD
      replace a0 := Kit.cell_below b2 a0
      replace a1 := Kit.cell_below b2 a1
      replace aS := Kit.cell_below b2 aS
      replace l0 := Kit.cell_below b2 l0
      replace l1 := Kit.cell_below b2 l1
      replace l2 := Kit.cell_below b2 l2
      replace l3 := Kit.cell_below b2 l3
      replace l4 := Kit.cell_below b2 l4
      replace l5 := Kit.cell_below b2 l5
      replace dD := Kit.cell_below b2 dD
      have z2a := World.block_lt_of_cell? w2 ⟨w.heap.size, 0, none⟩ a0
      have z2b := World.block_lt_of_cell? w2 ⟨w.heap.size + 1, 0, none⟩ l0
      have z2c := World.block_lt_of_cell? w2 ⟨w1.heap.size, 0, none⟩ aS
      simp only at z2a z2b z2c
      have ne6 : ¬ w.heap.size = w2.heap.size := by omega
      have ne7 : ¬ w.heap.size + 1 = w2.heap.size := by omega
      have ne8 : ¬ w1.heap.size = w2.heap.size := by omega
      have B2 := Lib.hid (BB.out.trans (b2.mono BB.out.size))
      clear b2
      try go_simp
      refine hK.out _ _ ?_ (fun hHeld => ?_)
      · first | go_keep | ((try dsimp only); (repeat' apply And.intro) <;> first | assumption | go_simp)
      clear hK K
      try simp only [Act.put, List.setIfInBounds_toArray, List.set_cons_zero, List.set_cons_succ]
      refine Rgn.one 4 rfl (by kernel_rfl) (fun K hK => ?_)
      go_simp
      refine (Rd.contains_calls A2 on.length cap2 on s _ HI.out HAL.out).mono ?_
      rintro e w3 ⟨rfl, b3⟩
      have BQ := B2.out
      rw [← HOW.out]
      replace fD := Kit.free_below b3 dD fD
      replace a0 := Kit.cell_below b3 a0
      replace a1 := Kit.cell_below b3 a1
      replace aS := Kit.cell_below b3 aS
      replace l0 := Kit.cell_below b3 l0
      replace l1 := Kit.cell_below b3 l1
      replace l2 := Kit.cell_below b3 l2
      replace l3 := Kit.cell_below b3 l3
      replace l4 := Kit.cell_below b3 l4
      replace l5 := Kit.cell_below b3 l5
      replace dD := Kit.cell_below b3 dD
      have B3 := Lib.hid (BQ.trans (b3.mono BQ.size))
      clear b3 BQ
      try go_simp
      refine hK.out _ _ ?_ (fun hHeld => ?_)
      · first | go_keep | ((try dsimp only); (repeat' apply And.intro) <;> first | assumption | go_simp)
      clear hK K
      try simp only [Act.put, List.setIfInBounds_toArray, List.set_cons_zero, List.set_cons_succ]
      refine Rgn.one 6 rfl (by kernel_rfl) (fun K hK => ?_)
      go_simp
      refine hK.out _ _ ?_ (fun hHeld => ?_)
      · first | go_keep | ((try dsimp only); (repeat' apply And.intro) <;> first | assumption | go_simp)
      clear hK K
      try simp only [Act.put, List.setIfInBounds_toArray, List.set_cons_zero, List.set_cons_succ]
      refine wpAnyH_done (by kernel_rfl) ?_ _
      replace a0 : (w3.setCell ⟨w1.heap.size + 1, 0, none⟩ (.bool must)).cell? ⟨w.heap.size, 0, none⟩ = some (.int .i64 c) := by go_simp
      replace a1 : (w3.setCell ⟨w1.heap.size + 1, 0, none⟩ (.bool must)).cell? ⟨w.heap.size, 1, none⟩ = some (.int .i64 v) := by go_simp
      replace aS : (w3.setCell ⟨w1.heap.size + 1, 0, none⟩ (.bool must)).cell? ⟨w1.heap.size, 0, none⟩ = some (.int .i64 s) := by go_simp
      replace l0 : (w3.setCell ⟨w1.heap.size + 1, 0, none⟩ (.bool must)).cell? ⟨w.heap.size + 1, 0, none⟩ = some (.int .i64 t) := by go_simp
      replace l1 : (w3.setCell ⟨w1.heap.size + 1, 0, none⟩ (.bool must)).cell? ⟨w.heap.size + 1, 1, none⟩ = some (.int .i64 ak) := by go_simp
      replace l2 : (w3.setCell ⟨w1.heap.size + 1, 0, none⟩ (.bool must)).cell? ⟨w.heap.size + 1, 2, none⟩ = some (.int .i64 ai) := by go_simp
      replace l3 : (w3.setCell ⟨w1.heap.size + 1, 0, none⟩ (.bool must)).cell? ⟨w.heap.size + 1, 3, none⟩ = some (.int .i64 bk) := by go_simp
      replace l4 : (w3.setCell ⟨w1.heap.size + 1, 0, none⟩ (.bool must)).cell? ⟨w.heap.size + 1, 4, none⟩ = some (.int .i64 bi) := by go_simp
      replace l5 : (w3.setCell ⟨w1.heap.size + 1, 0, none⟩ (.bool must)).cell? ⟨w.heap.size + 1, 5, none⟩ = some (N) := by go_simp
      have dM : (w3.setCell ⟨w1.heap.size + 1, 0, none⟩ (.bool must)).cell? ⟨w1.heap.size + 1, 0, none⟩ = some (.bool must) := by go_simp
      have BF : Below w.heap.size w (w3.setCell ⟨w1.heap.size + 1, 0, none⟩ (.bool must)) := B3.out.setCell (by first | omega | (simp; omega)) _
      go_wp2_with fail
      refine (KR.out _).mono ?_
      rintro e w5 ⟨A5, cap5, rfl, hfr, b5⟩
      replace aS := Kit.cell_below b5 aS
      replace dM := Kit.cell_below b5 dM
      have B5 := Lib.hid (Kit.chain BF b5)
      have HFR := Lib.hid hfr
      clear b5 hfr BF a0 a1 l0 l1 l2 l3 l4 l5
      go_wp2_with fail
      refine (Hear.cfunc_calls A5 rl.length cap5 rl 111 #[.pointer (some ⟨w1.heap.size, 0, none⟩), .pointer (some ⟨w1.heap.size + 1, 0, none⟩)] (Rd.bad s must) _ HFR.out HRL.out (Kit.enters Try.func111 (by kernel_rfl) rfl) (fun W x hW hx => Rd.bad_calls x s must _ _ W (Kit.cell_below hW aS) (Kit.cell_below hW dM))).mono ?_
      rintro e w6 ⟨rfl, b6⟩
      go_wp2_with fail
      go_ret
      exact ⟨rfl, Kit.chain B5.out b6⟩
end Go.Proofs.Ytpbkoooljelhjaa
