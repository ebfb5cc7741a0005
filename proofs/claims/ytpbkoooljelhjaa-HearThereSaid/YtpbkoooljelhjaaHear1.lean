/-
  The walks of package hear: what two frames say.
-/
import Derived.Test.YtpbkoooljelhjaaHear0
import Derived.Test.YtpbkoooljelhjaaKit2
namespace Go.Proofs.Ytpbkoooljelhjaa
set_option linter.unusedVariables false
set_option linter.unusedSimpArgs false
open Go.RowKit

/-- A number that may be lacking, as two results. -/
def Hear.oi (o : Option Int) : Int := o.getD 0
def Hear.two (a b : Fr) : Value := .agg #[.int .i64 a.k, .int .i64 a.i, .int .i64 b.k, .int .i64 b.i]
def Hear.cells (a b : Fr) : Array Value := #[.int .i64 a.k, .int .i64 a.i, .int .i64 b.k, .int .i64 b.i]
theorem Hear.frames (a b : Fr) (w : World) (T : TypeId) : Frames (w.alloc (.cells #[.int .i64 a.k, .int .i64 a.i, .int .i64 b.k, .int .i64 b.i] T)) (some ⟨w.heap.size, 0, none⟩) 2 [a, b] :=
  Lies.built w _ T 2 2 _ rfl (by intro c hc; simp at hc; rcases hc with rfl | rfl <;> rfl) rfl
theorem Hear.info : (Try.prog.info? 75).isSome = true := by kernel_rfl

set_option maxHeartbeats 1000000 in
set_option maxRecDepth 100000 in
/-- hear.first. -/
theorem Hear.first_calls (a b : Fr) (g : Nat) (lb : Array Value) (p : Fr → Bool) (w : World)
    (eg : ∀ args w, (callFunc g args).run Try.prog w = .ok (.enter g args) w) (hp : Hear.Is g lb p [a, b] w) :
    Calls Try.prog 103 #[.agg #[.int .i64 a.k, .int .i64 a.i, .int .i64 b.k, .int .i64 b.i], .func (.func g) #[] lb] w
      fun e w' => e = .returned (.tuple #[.int .i64 (Hear.oi (Wm.hears p a b)), .bool (Wm.hears p a b).isSome]) ∧ Below w.heap.size w w' := by
  have hB : ∀ T, Below w.heap.size w (w.alloc (.cells #[.int .i64 a.k, .int .i64 a.i, .int .i64 b.k, .int .i64 b.i] T)) := fun T => (Below.refl _ _).alloc (Nat.le_refl _) _
  have c1 := fun T => Hear.ifunc_calls (some ⟨w.heap.size, 0, none⟩) 2 2 [a, b] g lb p _ (Hear.frames a b w T) (by omega) eg (fun W x hW hx => hp W x (Kit.chain (hB T) hW) hx)
  clear hp hB
  cases pa : p a with
  | true =>
    have h1 : Vw.idx p [a, b] = 0 := by simp [Vw.idx, List.findIdx?_cons, pa]
    have h2 : Wm.hears p a b = some a.i := by simp [Wm.hears, pa]
    rw [h2]
    rw [h1] at c1
    clear h1 h2 pa
    obtain ⟨ak, ai⟩ := a
    obtain ⟨bk, bi⟩ := b
    go_enter Try.func103, Try.ntmps103
    go_wp2_with fail
    refine (c1 _).mono ?_
    rintro e w1 ⟨rfl, b1⟩
    have m1 := Kit.cell_new b1 1 rfl
    have B1 := Lib.hid b1
    clear b1
    go_wp2_with fail
    go_ret2
    exact ⟨rfl, Kit.chain ((Below.refl _ _).alloc (Nat.le_refl _) _) B1.out⟩
  | false =>
    cases pb : p b with
    | true =>
      have h1 : Vw.idx p [a, b] = 1 := by simp [Vw.idx, List.findIdx?_cons, pa, pb]
      have h2 : Wm.hears p a b = some b.i := by simp [Wm.hears, pa, pb]
      rw [h2]
      rw [h1] at c1
      clear h1 h2 pa pb
      obtain ⟨ak, ai⟩ := a
      obtain ⟨bk, bi⟩ := b
      go_enter Try.func103, Try.ntmps103
      go_wp2_with fail
      refine (c1 _).mono ?_
      rintro e w1 ⟨rfl, b1⟩
      have m1 := Kit.cell_new b1 3 rfl
      have B1 := Lib.hid b1
      clear b1
      go_wp2_with fail
      go_ret2
      exact ⟨rfl, Kit.chain ((Below.refl _ _).alloc (Nat.le_refl _) _) B1.out⟩
    | false =>
      have h1 : Vw.idx p [a, b] = -1 := by simp [Vw.idx, List.findIdx?_cons, pa, pb]
      have h2 : Wm.hears p a b = none := by simp [Wm.hears, pa, pb]
      rw [h2]
      rw [h1] at c1
      clear h1 h2 pa pb
      obtain ⟨ak, ai⟩ := a
      obtain ⟨bk, bi⟩ := b
      go_enter Try.func103, Try.ntmps103
      go_wp2_with fail
      refine (c1 _).mono ?_
      rintro e w1 ⟨rfl, b1⟩
      have B1 := Lib.hid b1
      clear b1
      go_wp2_with fail
      go_ret2
      exact ⟨rfl, Kit.chain ((Below.refl _ _).alloc (Nat.le_refl _) _) B1.out⟩

set_option maxHeartbeats 400000 in
set_option maxRecDepth 100000 in
theorem Hear.info1_calls (x y : Int) (w : World) :
    Calls Try.prog 104 #[.agg #[.int .i64 x, .int .i64 y]] w fun e w' => e = .returned (.bool (x == 2)) ∧ Below w.heap.size w w' := by
  go_enter Try.func104, Try.ntmps104
  go_wp2_with fail
  go_ret
  exact ⟨rfl, (Below.refl _ _).alloc (Nat.le_refl _) _⟩

set_option maxHeartbeats 400000 in
set_option maxRecDepth 100000 in
theorem Hear.other1_calls (x y i : Int) (B : Nat) (w : World) (h : w.cell? ⟨B, 0, none⟩ = some (.int .i64 i)) :
    Calls Try.prog 105 #[.agg #[.int .i64 x, .int .i64 y], .pointer (some ⟨B, 0, none⟩)] w fun e w' => e = .returned (.bool (x == 1 && y != i)) ∧ Below w.heap.size w w' := by
  have hlt := World.block_lt_of_cell? w ⟨B, 0, none⟩ h
  cases hx : x == 1
  all_goals
    go_enter Try.func105, Try.ntmps105
    go_wp2_with fail
    go_ret
    exact ⟨by first | rfl | simp, (Below.refl _ _).alloc (Nat.le_refl _) _⟩

set_option maxHeartbeats 400000 in
set_option maxRecDepth 100000 in
theorem Hear.wrong1_calls (x y i : Int) (B : Nat) (w : World) (h : w.cell? ⟨B, 0, none⟩ = some (.int .i64 i)) :
    Calls Try.prog 106 #[.agg #[.int .i64 x, .int .i64 y], .pointer (some ⟨B, 0, none⟩)] w fun e w' => e = .returned (.bool (x == 2 && y != i)) ∧ Below w.heap.size w w' := by
  have hlt := World.block_lt_of_cell? w ⟨B, 0, none⟩ h
  cases hx : x == 2
  all_goals
    go_enter Try.func106, Try.ntmps106
    go_wp2_with fail
    go_ret
    exact ⟨by first | rfl | simp, (Below.refl _ _).alloc (Nat.le_refl _) _⟩

set_option maxHeartbeats 400000 in
set_option maxRecDepth 100000 in
/-- hear.Info. -/
theorem Hear.info_calls (a b : Fr) (w : World) :
    Calls Try.prog 71 #[.agg #[.int .i64 a.k, .int .i64 a.i, .int .i64 b.k, .int .i64 b.i]] w
      fun e w' => e = .returned (.tuple #[.int .i64 (Hear.oi (Wm.info a b)), .bool (Wm.info a b).isSome]) ∧ Below w.heap.size w w' := by
  have c1 := fun W => Hear.first_calls a b 104 #[] (fun f => f.k == 2) W (Kit.enters Try.func104 (by kernel_rfl) rfl) (fun W x _ _ => Hear.info1_calls _ _ W)
  unfold Wm.info
  generalize Wm.hears (fun f : Fr => f.k == 2) a b = o at *
  obtain ⟨ak, ai⟩ := a
  obtain ⟨bk, bi⟩ := b
  go_enter Try.func71, Try.ntmps71
  go_wp2_with fail
  refine (c1 _).mono ?_
  rintro e w1 ⟨rfl, b1⟩
  have B1 := Lib.hid b1
  clear b1
  go_wp2_with fail
  go_ret2
  exact ⟨rfl, Kit.chain ((Below.refl _ _).alloc (Nat.le_refl _) _) B1.out⟩

theorem Hear.boxed (w : World) (cs cs2 : Array Value) (T T2 : TypeId) : Below w.heap.size w ((w.alloc (.cells cs T)).alloc (.cells cs2 T2)) := ((Below.refl _ _).alloc (Nat.le_refl _) _).alloc (by simp) _

set_option maxHeartbeats 400000 in
set_option maxRecDepth 100000 in
/-- hear.Other. -/
theorem Hear.other_calls (a b : Fr) (i : Int) (w : World) :
    Calls Try.prog 73 #[.agg #[.int .i64 a.k, .int .i64 a.i, .int .i64 b.k, .int .i64 b.i], .int .i64 i] w
      fun e w' => e = .returned (.tuple #[.int .i64 (Hear.oi (Wm.other i a b)), .bool (Wm.other i a b).isSome]) ∧ Below w.heap.size w w' := by
  have c1 := fun (W : World) (B : Nat) (h : W.cell? ⟨B, 0, none⟩ = some (.int .i64 i)) => Hear.first_calls a b 105 #[.pointer (some ⟨B, 0, none⟩)] (fun f => f.k == 1 && f.i != i) W (Kit.enters Try.func105 (by kernel_rfl) rfl) (fun W' x hW _ => Hear.other1_calls _ _ i B W' (Kit.cell_below hW h))
  unfold Wm.other
  generalize Wm.hears (fun f : Fr => f.k == 1 && f.i != i) a b = o at *
  have C1 := Lib.hid c1
  clear c1
  obtain ⟨ak, ai⟩ := a
  obtain ⟨bk, bi⟩ := b
  go_enter Try.func73, Try.ntmps73
  go_wp2_with fail
  refine (C1.out _ _ (by go_simp)).mono ?_
  rintro e w1 ⟨rfl, b1⟩
  have B1 := Lib.hid b1
  clear b1
  go_wp2_with fail
  go_ret2
  exact ⟨rfl, Kit.chain (Hear.boxed ..) B1.out⟩

set_option maxHeartbeats 400000 in
set_option maxRecDepth 100000 in
/-- hear.Wrong. -/
theorem Hear.wrong_calls (a b : Fr) (i : Int) (w : World) :
    Calls Try.prog 75 #[.agg #[.int .i64 a.k, .int .i64 a.i, .int .i64 b.k, .int .i64 b.i], .int .i64 i] w
      fun e w' => e = .returned (.bool (Wm.wrong i a b)) ∧ Below w.heap.size w w' := by
  have c1 := fun (W : World) (B : Nat) (h : W.cell? ⟨B, 0, none⟩ = some (.int .i64 i)) => Hear.first_calls a b 106 #[.pointer (some ⟨B, 0, none⟩)] (fun f => f.k == 2 && f.i != i) W (Kit.enters Try.func106 (by kernel_rfl) rfl) (fun W' x hW _ => Hear.wrong1_calls _ _ i B W' (Kit.cell_below hW h))
  have hw : Wm.wrong i a b = (Wm.hears (fun f : Fr => f.k == 2 && f.i != i) a b).isSome := by
    unfold Wm.wrong Wm.hears
    cases h1 : (a.k == 2 && a.i != i) <;> cases h2 : (b.k == 2 && b.i != i) <;> simp [h1, h2]
  rw [hw]
  clear hw
  generalize Wm.hears (fun f : Fr => f.k == 2 && f.i != i) a b = o at *
  have C1 := Lib.hid c1
  clear c1
  obtain ⟨ak, ai⟩ := a
  obtain ⟨bk, bi⟩ := b
  go_enter Try.func75, Try.ntmps75
  go_wp2_with fail
  refine (C1.out _ _ (by go_simp)).mono ?_
  rintro e w1 ⟨rfl, b1⟩
  have B1 := Lib.hid b1
  clear b1
  go_wp2_with fail
  go_ret
  exact ⟨rfl, Kit.chain (Hear.boxed ..) B1.out⟩

set_option maxHeartbeats 400000 in
set_option maxRecDepth 100000 in
/-- hear.Match. -/
theorem Hear.match_calls (a b : Fr) (i : Int) (w : World) :
    Calls Try.prog 77 #[.agg #[.int .i64 a.k, .int .i64 a.i, .int .i64 b.k, .int .i64 b.i], .int .i64 i] w
      fun e w' => e = .returned (.bool (Wm.match_ i a b)) ∧ Below w.heap.size w w' := by
  have c1 := fun T => Hear.contains_calls (some ⟨w.heap.size, 0, none⟩) 2 2 [a, b] ⟨2, i⟩ _ (Hear.frames a b w T) (by omega)
  have hm : ([a, b].any fun x => ((⟨2, i⟩ : Fr).k == x.k && (⟨2, i⟩ : Fr).i == x.i)) = Wm.match_ i a b := by
    unfold Wm.match_
    simp only [List.any_cons, List.any_nil, Bool.or_false]
    have hc : ∀ x y : Int, (x == y) = (y == x) := fun x y => BEq.comm
    rw [hc 2 a.k, hc i a.i, hc 2 b.k, hc i b.i]
  rw [hm] at c1
  clear hm
  generalize Wm.match_ i a b = m at *
  obtain ⟨ak, ai⟩ := a
  obtain ⟨bk, bi⟩ := b
  go_enter Try.func77, Try.ntmps77
  go_wp2_with fail
  refine (c1 _).mono ?_
  rintro e w1 ⟨rfl, b1⟩
  have B1 := Lib.hid b1
  clear b1
  go_wp2_with fail
  go_ret
  exact ⟨rfl, Kit.chain ((Below.refl _ _).alloc (Nat.le_refl _) _) B1.out⟩
end Go.Proofs.Ytpbkoooljelhjaa
