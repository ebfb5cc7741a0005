/-
  Part 19 of a merged text.
-/
import Derived.Test.YtgiojagdmglinaaGreatDoorGb18
import Derived.Deep.Cut
import Derived.Test.YtgiojagdmglinaaGreatDoorGb00
set_option linter.unusedVariables false
set_option linter.unusedSimpArgs false
set_option maxRecDepth 100000
namespace Go.Proofs.YtgiojagdmglinaaGreatDoor
open Go.RowKit Vote
namespace Link
theorem row_of_own {w : World} {base n : Nat} {v : Value} {l : List Fr} (h : w.ownsRow base 45 2 v n (Port.cells l)) (hn : 0 < n) : ∃ g cap, v = .slice (some ⟨g, 0, none⟩) n cap ∧ base ≤ g ∧ Kit.Row w g (Port.cells l) := by
 obtain ⟨g, cap, rfl, hb, hg⟩ := h.form hn
 have hl := h.lt g rfl
 refine ⟨g, cap, rfl, hl.1, hl.2, fun o u hu => ?_, fun o _ => h.frozenAt o⟩
 have hc := h.cells (g := g) rfl o u hu
 have ha : (⟨g, 0, none⟩ : Addr).add o = ⟨g, o, none⟩ := by unfold Addr.add; split <;> simp_all
 rwa [ha] at hc
theorem frames_of_row {w : World} {g n : Nat} {l : List Fr} (hn : l.length = n) (h : Kit.Row w g (Port.cells l)) : Frames w (some ⟨g, 0, none⟩) n l where
 len := by rw [List.length_map, hn]
 at_ := fun _ => ⟨g, 0, rfl, h.lt, fun j c hj i v hi => by
  rw [Nat.zero_add]
  refine h.at_ _ _ (flat_get 2 _ ?_ j c hj i v hi)
  intro c hc
  obtain ⟨x, _, rfl⟩ := List.mem_map.1 hc
  rfl⟩
def l0 (d1 : Bool) (a b : List Fr) : List Fr := if d1 then Port.both a b else a
def l1 (d0 : Bool) (a b : List Fr) : List Fr := if d0 then Port.both a b else b
def hs (d0 : Bool) (h0 h1 : Hb) : Hb := if d0 then h0 else h1
def Sides (n : Nat) (A0 A1 : Option Addr) (h0 h1 : Hb) (a b : List Fr) (d0 d1 : Bool) (w : World) (e : Ending) (w' : World) : Prop :=
 ∃ (A A' : Option Addr) (c c' : Nat), e = .returned (.agg #[.int .i64 (h0.ag 0), .int .i64 (h0.ag 1), .int .i64 (h0.ag 2), .int .i64 (h0.ag 3), .int .i64 (h0.ag 4), .int .i64 (h0.ag 5), .int .i64 (h0.ag 6), .int .i64 (h0.ag 7), .int .i64 h0.port, .int .i64 h0.age, .int .i64 h0.hold, .int .i64 h0.pos, .slice A n c, .int .i64 ((hs d0 h0 h1).ag 0), .int .i64 ((hs d0 h0 h1).ag 1), .int .i64 ((hs d0 h0 h1).ag 2), .int .i64 ((hs d0 h0 h1).ag 3), .int .i64 ((hs d0 h0 h1).ag 4), .int .i64 ((hs d0 h0 h1).ag 5), .int .i64 ((hs d0 h0 h1).ag 6), .int .i64 ((hs d0 h0 h1).ag 7), .int .i64 ((hs d0 h0 h1).port), .int .i64 ((hs d0 h0 h1).age), .int .i64 ((hs d0 h0 h1).hold), .int .i64 ((hs d0 h0 h1).pos), .slice A' n c']) ∧ Frames w' A n (l0 d1 a b) ∧ Frames w' A' n (l1 d0 a b) ∧ (A = A0 ∨ ∃ g, A = some ⟨g, 0, none⟩ ∧ w.heap.size ≤ g) ∧ (A' = A1 ∨ ∃ g, A' = some ⟨g, 0, none⟩ ∧ w.heap.size ≤ g) ∧ Below w.heap.size w w'
theorem sizeSide : (Tryz.prog.info? 141).map (·.size) = some 13 := by kernel_rfl
theorem sizeSides : (Tryz.prog.info? 142).map (·.size) = some 26 := by kernel_rfl
set_option maxHeartbeats 1000000 in
theorem sides_calls (n k0 k1 : Nat) (A0 A1 : Option Addr) (h0 h1 : Hb) (a b : List Fr) (d0 d1 : Bool) (w : World) (h3 : 3 ≤ n) (hn : n ≤ 8) (ha : Frames w A0 n a) (hb : Frames w A1 n b) :
  Calls Tryz.prog 97 #[.agg #[.int .i64 (h0.ag 0), .int .i64 (h0.ag 1), .int .i64 (h0.ag 2), .int .i64 (h0.ag 3), .int .i64 (h0.ag 4), .int .i64 (h0.ag 5), .int .i64 (h0.ag 6), .int .i64 (h0.ag 7), .int .i64 h0.port, .int .i64 h0.age, .int .i64 h0.hold, .int .i64 h0.pos, .int .i64 (h1.ag 0), .int .i64 (h1.ag 1), .int .i64 (h1.ag 2), .int .i64 (h1.ag 3), .int .i64 (h1.ag 4), .int .i64 (h1.ag 5), .int .i64 (h1.ag 6), .int .i64 (h1.ag 7), .int .i64 h1.port, .int .i64 h1.age, .int .i64 h1.hold, .int .i64 h1.pos], .agg #[.slice A0 n k0, .slice A1 n k1], .agg #[.bool d0, .bool d1]] w (Sides n A0 A1 h0 h1 a b d0 d1 w) := by
 have kb := fun W (hW : Below w.heap.size w W) => Port.both_calls A0 A1 n k0 n k1 a b W (ha.below hW) (hb.below hW) (by omega) (by omega)
 simp only [if_true] at kb
 have hlen : (Port.both a b).length = n := by rw [Port.both_len a b (by rw [ha.len, hb.len]), hb.len]
 have KB := Lib.hid kb
 have FA := Lib.hid ha
 have FB := Lib.hid hb
 clear kb ha hb
 have hla := FA.out.len
 have hlb := FB.out.len
 go_enter Tryz.func97, Tryz.ntmps97
 go_upto_region 1 with fail
 have q0 : Kit.Row ((((w.alloc (.cells #[.int .i64 (h0.ag 0), .int .i64 (h0.ag 1), .int .i64 (h0.ag 2), .int .i64 (h0.ag 3), .int .i64 (h0.ag 4), .int .i64 (h0.ag 5), .int .i64 (h0.ag 6), .int .i64 (h0.ag 7), .int .i64 h0.port, .int .i64 h0.age, .int .i64 h0.hold, .int .i64 h0.pos, .int .i64 (h1.ag 0), .int .i64 (h1.ag 1), .int .i64 (h1.ag 2), .int .i64 (h1.ag 3), .int .i64 (h1.ag 4), .int .i64 (h1.ag 5), .int .i64 (h1.ag 6), .int .i64 (h1.ag 7), .int .i64 h1.port, .int .i64 h1.age, .int .i64 h1.hold, .int .i64 h1.pos] 29)).alloc (.cells #[.slice A0 n k0, .slice A1 n k1] 80)).alloc (.cells #[.bool d0, .bool d1] 116)).alloc (.cells #[.int .i64 0, .int .i64 0, .int .i64 0, .int .i64 0, .int .i64 0, .int .i64 0, .int .i64 0, .int .i64 0, .int .i64 0, .int .i64 0, .int .i64 0, .int .i64 0, .slice none 0 0, .int .i64 0, .int .i64 0, .int .i64 0, .int .i64 0, .int .i64 0, .int .i64 0, .int .i64 0, .int .i64 0, .int .i64 0, .int .i64 0, .int .i64 0, .int .i64 0, .slice none 0 0] 142)) (w.heap.size) [.int .i64 (h0.ag 0), .int .i64 (h0.ag 1), .int .i64 (h0.ag 2), .int .i64 (h0.ag 3), .int .i64 (h0.ag 4), .int .i64 (h0.ag 5), .int .i64 (h0.ag 6), .int .i64 (h0.ag 7), .int .i64 h0.port, .int .i64 h0.age, .int .i64 h0.hold, .int .i64 h0.pos, .int .i64 (h1.ag 0), .int .i64 (h1.ag 1), .int .i64 (h1.ag 2), .int .i64 (h1.ag 3), .int .i64 (h1.ag 4), .int .i64 (h1.ag 5), .int .i64 (h1.ag 6), .int .i64 (h1.ag 7), .int .i64 h1.port, .int .i64 h1.age, .int .i64 h1.hold, .int .i64 h1.pos] := ((((Kit.Row.new w _ _).alloc _).alloc _).alloc _)
 have q1 : Kit.Row ((((w.alloc (.cells #[.int .i64 (h0.ag 0), .int .i64 (h0.ag 1), .int .i64 (h0.ag 2), .int .i64 (h0.ag 3), .int .i64 (h0.ag 4), .int .i64 (h0.ag 5), .int .i64 (h0.ag 6), .int .i64 (h0.ag 7), .int .i64 h0.port, .int .i64 h0.age, .int .i64 h0.hold, .int .i64 h0.pos, .int .i64 (h1.ag 0), .int .i64 (h1.ag 1), .int .i64 (h1.ag 2), .int .i64 (h1.ag 3), .int .i64 (h1.ag 4), .int .i64 (h1.ag 5), .int .i64 (h1.ag 6), .int .i64 (h1.ag 7), .int .i64 h1.port, .int .i64 h1.age, .int .i64 h1.hold, .int .i64 h1.pos] 29)).alloc (.cells #[.slice A0 n k0, .slice A1 n k1] 80)).alloc (.cells #[.bool d0, .bool d1] 116)).alloc (.cells #[.int .i64 0, .int .i64 0, .int .i64 0, .int .i64 0, .int .i64 0, .int .i64 0, .int .i64 0, .int .i64 0, .int .i64 0, .int .i64 0, .int .i64 0, .int .i64 0, .slice none 0 0, .int .i64 0, .int .i64 0, .int .i64 0, .int .i64 0, .int .i64 0, .int .i64 0, .int .i64 0, .int .i64 0, .int .i64 0, .int .i64 0, .int .i64 0, .int .i64 0, .slice none 0 0] 142)) (w.heap.size + 1) [.slice A0 n k0, .slice A1 n k1] := (((Kit.Row.newAt _ _ _ _ (by simp)).alloc _).alloc _)
 have q2 : Kit.Row ((((w.alloc (.cells #[.int .i64 (h0.ag 0), .int .i64 (h0.ag 1), .int .i64 (h0.ag 2), .int .i64 (h0.ag 3), .int .i64 (h0.ag 4), .int .i64 (h0.ag 5), .int .i64 (h0.ag 6), .int .i64 (h0.ag 7), .int .i64 h0.port, .int .i64 h0.age, .int .i64 h0.hold, .int .i64 h0.pos, .int .i64 (h1.ag 0), .int .i64 (h1.ag 1), .int .i64 (h1.ag 2), .int .i64 (h1.ag 3), .int .i64 (h1.ag 4), .int .i64 (h1.ag 5), .int .i64 (h1.ag 6), .int .i64 (h1.ag 7), .int .i64 h1.port, .int .i64 h1.age, .int .i64 h1.hold, .int .i64 h1.pos] 29)).alloc (.cells #[.slice A0 n k0, .slice A1 n k1] 80)).alloc (.cells #[.bool d0, .bool d1] 116)).alloc (.cells #[.int .i64 0, .int .i64 0, .int .i64 0, .int .i64 0, .int .i64 0, .int .i64 0, .int .i64 0, .int .i64 0, .int .i64 0, .int .i64 0, .int .i64 0, .int .i64 0, .slice none 0 0, .int .i64 0, .int .i64 0, .int .i64 0, .int .i64 0, .int .i64 0, .int .i64 0, .int .i64 0, .int .i64 0, .int .i64 0, .int .i64 0, .int .i64 0, .int .i64 0, .slice none 0 0] 142)) (w.heap.size + 1 + 1) [.bool d0, .bool d1] := ((Kit.Row.newAt _ _ _ _ (by simp)).alloc _)
 have q3 : Kit.Row ((((w.alloc (.cells #[.int .i64 (h0.ag 0), .int .i64 (h0.ag 1), .int .i64 (h0.ag 2), .int .i64 (h0.ag 3), .int .i64 (h0.ag 4), .int .i64 (h0.ag 5), .int .i64 (h0.ag 6), .int .i64 (h0.ag 7), .int .i64 h0.port, .int .i64 h0.age, .int .i64 h0.hold, .int .i64 h0.pos, .int .i64 (h1.ag 0), .int .i64 (h1.ag 1), .int .i64 (h1.ag 2), .int .i64 (h1.ag 3), .int .i64 (h1.ag 4), .int .i64 (h1.ag 5), .int .i64 (h1.ag 6), .int .i64 (h1.ag 7), .int .i64 h1.port, .int .i64 h1.age, .int .i64 h1.hold, .int .i64 h1.pos] 29)).alloc (.cells #[.slice A0 n k0, .slice A1 n k1] 80)).alloc (.cells #[.bool d0, .bool d1] 116)).alloc (.cells #[.int .i64 0, .int .i64 0, .int .i64 0, .int .i64 0, .int .i64 0, .int .i64 0, .int .i64 0, .int .i64 0, .int .i64 0, .int .i64 0, .int .i64 0, .int .i64 0, .slice none 0 0, .int .i64 0, .int .i64 0, .int .i64 0, .int .i64 0, .int .i64 0, .int .i64 0, .int .i64 0, .int .i64 0, .int .i64 0, .int .i64 0, .int .i64 0, .int .i64 0, .slice none 0 0] 142)) (w.heap.size + 1 + 1 + 1) [.int .i64 0, .int .i64 0, .int .i64 0, .int .i64 0, .int .i64 0, .int .i64 0, .int .i64 0, .int .i64 0, .int .i64 0, .int .i64 0, .int .i64 0, .int .i64 0, .slice none 0 0, .int .i64 0, .int .i64 0, .int .i64 0, .int .i64 0, .int .i64 0, .int .i64 0, .int .i64 0, .int .i64 0, .int .i64 0, .int .i64 0, .int .i64 0, .int .i64 0, .slice none 0 0] := (Kit.Row.newAt _ _ _ _ (by simp))
 have qb : Below w.heap.size w ((((w.alloc (.cells #[.int .i64 (h0.ag 0), .int .i64 (h0.ag 1), .int .i64 (h0.ag 2), .int .i64 (h0.ag 3), .int .i64 (h0.ag 4), .int .i64 (h0.ag 5), .int .i64 (h0.ag 6), .int .i64 (h0.ag 7), .int .i64 h0.port, .int .i64 h0.age, .int .i64 h0.hold, .int .i64 h0.pos, .int .i64 (h1.ag 0), .int .i64 (h1.ag 1), .int .i64 (h1.ag 2), .int .i64 (h1.ag 3), .int .i64 (h1.ag 4), .int .i64 (h1.ag 5), .int .i64 (h1.ag 6), .int .i64 (h1.ag 7), .int .i64 h1.port, .int .i64 h1.age, .int .i64 h1.hold, .int .i64 h1.pos] 29)).alloc (.cells #[.slice A0 n k0, .slice A1 n k1] 80)).alloc (.cells #[.bool d0, .bool d1] 116)).alloc (.cells #[.int .i64 0, .int .i64 0, .int .i64 0, .int .i64 0, .int .i64 0, .int .i64 0, .int .i64 0, .int .i64 0, .int .i64 0, .int .i64 0, .int .i64 0, .int .i64 0, .slice none 0 0, .int .i64 0, .int .i64 0, .int .i64 0, .int .i64 0, .int .i64 0, .int .i64 0, .int .i64 0, .int .i64 0, .int .i64 0, .int .i64 0, .int .i64 0, .int .i64 0, .slice none 0 0] 142)) := (((((Below.refl _ _).alloc (Nat.le_refl _) _).alloc (by simp) _).alloc (by simp; omega) _).alloc (by simp; omega) _)
 generalize ((((w.alloc (.cells #[.int .i64 (h0.ag 0), .int .i64 (h0.ag 1), .int .i64 (h0.ag 2), .int .i64 (h0.ag 3), .int .i64 (h0.ag 4), .int .i64 (h0.ag 5), .int .i64 (h0.ag 6), .int .i64 (h0.ag 7), .int .i64 h0.port, .int .i64 h0.age, .int .i64 h0.hold, .int .i64 h0.pos, .int .i64 (h1.ag 0), .int .i64 (h1.ag 1), .int .i64 (h1.ag 2), .int .i64 (h1.ag 3), .int .i64 (h1.ag 4), .int .i64 (h1.ag 5), .int .i64 (h1.ag 6), .int .i64 (h1.ag 7), .int .i64 h1.port, .int .i64 h1.age, .int .i64 h1.hold, .int .i64 h1.pos] 29)).alloc (.cells #[.slice A0 n k0, .slice A1 n k1] 80)).alloc (.cells #[.bool d0, .bool d1] 116)).alloc (.cells #[.int .i64 0, .int .i64 0, .int .i64 0, .int .i64 0, .int .i64 0, .int .i64 0, .int .i64 0, .int .i64 0, .int .i64 0, .int .i64 0, .int .i64 0, .int .i64 0, .slice none 0 0, .int .i64 0, .int .i64 0, .int .i64 0, .int .i64 0, .int .i64 0, .int .i64 0, .int .i64 0, .int .i64 0, .int .i64 0, .int .i64 0, .int .i64 0, .int .i64 0, .slice none 0 0] 142)) = w2 at *
 have lt0 := q0.lt
 have lt1 := q1.lt
 have lt2 := q2.lt
 have lt3 := q3.lt
 have c0 := q0.at_ 0 (.int .i64 (h0.ag 0)) rfl
 have c1 := q0.at_ 1 (.int .i64 (h0.ag 1)) rfl
 have c2 := q0.at_ 2 (.int .i64 (h0.ag 2)) rfl
 have c3 := q0.at_ 3 (.int .i64 (h0.ag 3)) rfl
 have c4 := q0.at_ 4 (.int .i64 (h0.ag 4)) rfl
 have c5 := q0.at_ 5 (.int .i64 (h0.ag 5)) rfl
 have c6 := q0.at_ 6 (.int .i64 (h0.ag 6)) rfl
 have c7 := q0.at_ 7 (.int .i64 (h0.ag 7)) rfl
 have c8 := q0.at_ 8 (.int .i64 h0.port) rfl
 have c9 := q0.at_ 9 (.int .i64 h0.age) rfl
 have c10 := q0.at_ 10 (.int .i64 h0.hold) rfl
 have c11 := q0.at_ 11 (.int .i64 h0.pos) rfl
 have c12 := q0.at_ 12 (.int .i64 (h1.ag 0)) rfl
 have c13 := q0.at_ 13 (.int .i64 (h1.ag 1)) rfl
 have c14 := q0.at_ 14 (.int .i64 (h1.ag 2)) rfl
 have c15 := q0.at_ 15 (.int .i64 (h1.ag 3)) rfl
 have c16 := q0.at_ 16 (.int .i64 (h1.ag 4)) rfl
 have c17 := q0.at_ 17 (.int .i64 (h1.ag 5)) rfl
 have c18 := q0.at_ 18 (.int .i64 (h1.ag 6)) rfl
 have c19 := q0.at_ 19 (.int .i64 (h1.ag 7)) rfl
 have c20 := q0.at_ 20 (.int .i64 h1.port) rfl
 have c21 := q0.at_ 21 (.int .i64 h1.age) rfl
 have c22 := q0.at_ 22 (.int .i64 h1.hold) rfl
 have c23 := q0.at_ 23 (.int .i64 h1.pos) rfl
 have i0 := q1.at_ 0 (.slice A0 n k0) rfl
 have i1 := q1.at_ 1 (.slice A1 n k1) rfl
 iterate 37 (first | go_guarded | go_step | go_upon | go_back)
 refine Kit.wpList_store_row rfl 142 (.tmp 7) (.tmp 20) rfl w2.heap.size 0 #[.int .i64 (h0.ag 0), .int .i64 (h0.ag 1), .int .i64 (h0.ag 2), .int .i64 (h0.ag 3), .int .i64 (h0.ag 4), .int .i64 (h0.ag 5), .int .i64 (h0.ag 6), .int .i64 (h0.ag 7), .int .i64 h0.port, .int .i64 h0.age, .int .i64 h0.hold, .int .i64 h0.pos, .slice A0 n k0, .int .i64 (h1.ag 0), .int .i64 (h1.ag 1), .int .i64 (h1.ag 2), .int .i64 (h1.ag 3), .int .i64 (h1.ag 4), .int .i64 (h1.ag 5), .int .i64 (h1.ag 6), .int .i64 (h1.ag 7), .int .i64 h1.port, .int .i64 h1.age, .int .i64 h1.hold, .int .i64 h1.pos, .slice A1 n k1] rfl rfl (Kit.Row.newAt w2 _ _ _ rfl) (by simp) sizeSides (by first | rfl | (simp [Value.oneCell']; done) | decide) ?_
 intro W hW
 have s0 := (q0.alloc _).off hW (by omega)
 have s1 := (q1.alloc _).off hW (by omega)
 have s2 := (q2.alloc _).off hW (by omega)
 have s3 := (q3.alloc _).off hW (by omega)
 have s4 : Kit.Row W w2.heap.size [.int .i64 (h0.ag 0), .int .i64 (h0.ag 1), .int .i64 (h0.ag 2), .int .i64 (h0.ag 3), .int .i64 (h0.ag 4), .int .i64 (h0.ag 5), .int .i64 (h0.ag 6), .int .i64 (h0.ag 7), .int .i64 h0.port, .int .i64 h0.age, .int .i64 h0.hold, .int .i64 h0.pos, .slice A0 n k0, .int .i64 (h1.ag 0), .int .i64 (h1.ag 1), .int .i64 (h1.ag 2), .int .i64 (h1.ag 3), .int .i64 (h1.ag 4), .int .i64 (h1.ag 5), .int .i64 (h1.ag 6), .int .i64 (h1.ag 7), .int .i64 h1.port, .int .i64 h1.age, .int .i64 h1.hold, .int .i64 h1.pos, .slice A1 n k1] := (Kit.Row.newAt w2 _ _ _ rfl).all hW rfl
 have sb := Kit.below_of (qb.alloc qb.size _) hW qb.size
 clear hW q0 q1 q2 q3 c0 c1 c2 c3 c4 c5 c6 c7 c8 c9 c10 c11 c12 c13 c14 c15 c16 c17 c18 c19 c20 c21 c22 c23 i0 i1
 have hN : w.heap.size + 1 + 1 + 1 < w2.heap.size := lt3
 generalize w2.heap.size = N at *
 clear lt0 lt1 lt2 lt3 qb
 have i0 := s1.at_ 0 _ rfl
 have i1 := s1.at_ 1 _ rfl
 have S0 := Lib.hid s0
 have S1 := Lib.hid s1
 have S2 := Lib.hid s2
 have S3 := Lib.hid s3
 have S4 := Lib.hid s4
 have SB := Lib.hid sb
 clear s0 s1 s2 s3 s4 sb
 go_wp2_with fail
 refine (KB.out _ SB.out).mono ?_
 rintro e w3 ⟨v, rfl, hown, b3⟩
 rw [hlen] at hown
 obtain ⟨g, cp, rfl, hg, rc⟩ := row_of_own hown (by omega)
 have hNg : N < g := Nat.lt_of_lt_of_le S4.out.lt hg
 have RC := Lib.hid rc
 have T0 := Lib.hid (S0.out.below b3)
 have T2 := Lib.hid (S2.out.below b3)
 have T3 := Lib.hid (S3.out.below b3)
 have T4 := Lib.hid (S4.out.below b3)
 have TB := Lib.hid (SB.out.trans (b3.mono SB.out.size))
 clear S0 S1 S2 S3 S4 SB hown rc b3 i0 i1 hg
 have e0 := T2.out.at_ 0 (.bool d0) rfl
 have e1 := T2.out.at_ 1 (.bool d1) rfl
 cases d1 <;> cases d0
 ·go_upto_region 7 with fail
  go_step
  refine Kit.wpList_load_row rfl 142 (.tmp 7) rfl N 0 rfl T4.out [.int .i64 (h0.ag 0), .int .i64 (h0.ag 1), .int .i64 (h0.ag 2), .int .i64 (h0.ag 3), .int .i64 (h0.ag 4), .int .i64 (h0.ag 5), .int .i64 (h0.ag 6), .int .i64 (h0.ag 7), .int .i64 h0.port, .int .i64 h0.age, .int .i64 h0.hold, .int .i64 h0.pos, .slice A0 n k0, .int .i64 (h1.ag 0), .int .i64 (h1.ag 1), .int .i64 (h1.ag 2), .int .i64 (h1.ag 3), .int .i64 (h1.ag 4), .int .i64 (h1.ag 5), .int .i64 (h1.ag 6), .int .i64 (h1.ag 7), .int .i64 h1.port, .int .i64 h1.age, .int .i64 h1.hold, .int .i64 h1.pos, .slice A1 n k1] rfl _ Tryz.underlying142 rfl sizeSides ?_
  refine Kit.wpList_store_row rfl 142 (.tmp 6) (.tmp 41) rfl (w.heap.size + 1 + 1 + 1) 0 #[.int .i64 (h0.ag 0), .int .i64 (h0.ag 1), .int .i64 (h0.ag 2), .int .i64 (h0.ag 3), .int .i64 (h0.ag 4), .int .i64 (h0.ag 5), .int .i64 (h0.ag 6), .int .i64 (h0.ag 7), .int .i64 h0.port, .int .i64 h0.age, .int .i64 h0.hold, .int .i64 h0.pos, .slice A0 n k0, .int .i64 (h1.ag 0), .int .i64 (h1.ag 1), .int .i64 (h1.ag 2), .int .i64 (h1.ag 3), .int .i64 (h1.ag 4), .int .i64 (h1.ag 5), .int .i64 (h1.ag 6), .int .i64 (h1.ag 7), .int .i64 h1.port, .int .i64 h1.age, .int .i64 h1.hold, .int .i64 h1.pos, .slice A1 n k1] rfl rfl T3.out (by simp) sizeSides (by first | rfl | (simp [Value.oneCell']; done) | decide) ?_
  intro W3 hW3
  have X3 := T3.out.all hW3 rfl
  have XB := Kit.below_of TB.out hW3 (by omega)
  have hlt := X3.lt
  have RX := RC.out.off hW3 (by omega)
  clear hW3
  go_wp2_with fail
  refine bodyPost_ret (Kit.res_c Tryz.results97 _ _ (Kit.Var.mk' X3 Tryz.underlying142 rfl sizeSides)) rfl ⟨_, _, _, _, rfl, FA.out.below XB, FB.out.below XB, Or.inl rfl, Or.inl rfl, XB⟩
 ·go_upto_region 6 with fail
  have c0 := T0.out.at_ 0 (.int .i64 (h0.ag 0)) rfl
  have c1 := T0.out.at_ 1 (.int .i64 (h0.ag 1)) rfl
  have c2 := T0.out.at_ 2 (.int .i64 (h0.ag 2)) rfl
  have c3 := T0.out.at_ 3 (.int .i64 (h0.ag 3)) rfl
  have c4 := T0.out.at_ 4 (.int .i64 (h0.ag 4)) rfl
  have c5 := T0.out.at_ 5 (.int .i64 (h0.ag 5)) rfl
  have c6 := T0.out.at_ 6 (.int .i64 (h0.ag 6)) rfl
  have c7 := T0.out.at_ 7 (.int .i64 (h0.ag 7)) rfl
  have c8 := T0.out.at_ 8 (.int .i64 h0.port) rfl
  have c9 := T0.out.at_ 9 (.int .i64 h0.age) rfl
  have c10 := T0.out.at_ 10 (.int .i64 h0.hold) rfl
  have c11 := T0.out.at_ 11 (.int .i64 h0.pos) rfl
  have ltn := T4.out.lt
  iterate 16 (first | go_guarded | go_step | go_upon | go_back)
  refine Kit.wpList_store_row rfl 141 (.tmp 40) (.tmp 39) rfl N 13 #[.int .i64 (h0.ag 0), .int .i64 (h0.ag 1), .int .i64 (h0.ag 2), .int .i64 (h0.ag 3), .int .i64 (h0.ag 4), .int .i64 (h0.ag 5), .int .i64 (h0.ag 6), .int .i64 (h0.ag 7), .int .i64 h0.port, .int .i64 h0.age, .int .i64 h0.hold, .int .i64 h0.pos, .slice (some ⟨g, 0, none⟩) n cp] rfl rfl T4.out (by simp) sizeSide (by first | rfl | (simp [Value.oneCell']; done) | decide) ?_
  intro W2 hW2
  have V3 := Lib.hid (T3.out.off hW2 (by omega))
  have V4 : Hid (Kit.Row W2 N [.int .i64 (h0.ag 0), .int .i64 (h0.ag 1), .int .i64 (h0.ag 2), .int .i64 (h0.ag 3), .int .i64 (h0.ag 4), .int .i64 (h0.ag 5), .int .i64 (h0.ag 6), .int .i64 (h0.ag 7), .int .i64 h0.port, .int .i64 h0.age, .int .i64 h0.hold, .int .i64 h0.pos, .slice A0 n k0, .int .i64 (h0.ag 0), .int .i64 (h0.ag 1), .int .i64 (h0.ag 2), .int .i64 (h0.ag 3), .int .i64 (h0.ag 4), .int .i64 (h0.ag 5), .int .i64 (h0.ag 6), .int .i64 (h0.ag 7), .int .i64 h0.port, .int .i64 h0.age, .int .i64 h0.hold, .int .i64 h0.pos, .slice (some ⟨g, 0, none⟩) n cp]) := Lib.hid ((T4.out.on hW2 (by simp)).cast rfl)
  have VB := Lib.hid (Kit.below_of TB.out hW2 (by omega))
  have RC2 := Lib.hid (RC.out.off hW2 (by omega))
  clear RC
  have RC := RC2
  clear RC2
  clear hW2 c0 c1 c2 c3 c4 c5 c6 c7 c8 c9 c10 c11 e0
  go_upto_region 7 with fail
  go_step
  refine Kit.wpList_load_row rfl 142 (.tmp 7) rfl N 0 rfl V4.out [.int .i64 (h0.ag 0), .int .i64 (h0.ag 1), .int .i64 (h0.ag 2), .int .i64 (h0.ag 3), .int .i64 (h0.ag 4), .int .i64 (h0.ag 5), .int .i64 (h0.ag 6), .int .i64 (h0.ag 7), .int .i64 h0.port, .int .i64 h0.age, .int .i64 h0.hold, .int .i64 h0.pos, .slice A0 n k0, .int .i64 (h0.ag 0), .int .i64 (h0.ag 1), .int .i64 (h0.ag 2), .int .i64 (h0.ag 3), .int .i64 (h0.ag 4), .int .i64 (h0.ag 5), .int .i64 (h0.ag 6), .int .i64 (h0.ag 7), .int .i64 h0.port, .int .i64 h0.age, .int .i64 h0.hold, .int .i64 h0.pos, .slice (some ⟨g, 0, none⟩) n cp] rfl _ Tryz.underlying142 rfl sizeSides ?_
  refine Kit.wpList_store_row rfl 142 (.tmp 6) (.tmp 41) rfl (w.heap.size + 1 + 1 + 1) 0 #[.int .i64 (h0.ag 0), .int .i64 (h0.ag 1), .int .i64 (h0.ag 2), .int .i64 (h0.ag 3), .int .i64 (h0.ag 4), .int .i64 (h0.ag 5), .int .i64 (h0.ag 6), .int .i64 (h0.ag 7), .int .i64 h0.port, .int .i64 h0.age, .int .i64 h0.hold, .int .i64 h0.pos, .slice A0 n k0, .int .i64 (h0.ag 0), .int .i64 (h0.ag 1), .int .i64 (h0.ag 2), .int .i64 (h0.ag 3), .int .i64 (h0.ag 4), .int .i64 (h0.ag 5), .int .i64 (h0.ag 6), .int .i64 (h0.ag 7), .int .i64 h0.port, .int .i64 h0.age, .int .i64 h0.hold, .int .i64 h0.pos, .slice (some ⟨g, 0, none⟩) n cp] rfl rfl V3.out (by simp) sizeSides (by first | rfl | (simp [Value.oneCell']; done) | decide) ?_
  intro W3 hW3
  have X3 := V3.out.all hW3 rfl
  have XB := Kit.below_of VB.out hW3 (by omega)
  have hlt := X3.lt
  have RX := RC.out.off hW3 (by omega)
  clear hW3
  go_wp2_with fail
  refine bodyPost_ret (Kit.res_c Tryz.results97 _ _ (Kit.Var.mk' X3 Tryz.underlying142 rfl sizeSides)) rfl ⟨_, _, _, _, rfl, FA.out.below XB, frames_of_row hlen RX, Or.inl rfl, Or.inr ⟨g, rfl, by omega⟩, XB⟩
 ·have g12 := T4.out.at_ 12 (.slice A0 n k0) rfl
  have f12 := T4.out.free 12 (by simp)
  have lt4 := T4.out.lt
  go_upto_region 5 with fail
  have U0 := Lib.hid (T0.out.far N 12 (.slice (some ⟨g, 0, none⟩) n cp) (by omega))
  have U2 := T2.out.far N 12 (.slice (some ⟨g, 0, none⟩) n cp) (by omega)
  have U3 := Lib.hid (T3.out.far N 12 (.slice (some ⟨g, 0, none⟩) n cp) (by omega))
  have U4 : Hid (Kit.Row (w3.setCell ⟨N, 12, none⟩ (.slice (some ⟨g, 0, none⟩) n cp)) N [.int .i64 (h0.ag 0), .int .i64 (h0.ag 1), .int .i64 (h0.ag 2), .int .i64 (h0.ag 3), .int .i64 (h0.ag 4), .int .i64 (h0.ag 5), .int .i64 (h0.ag 6), .int .i64 (h0.ag 7), .int .i64 h0.port, .int .i64 h0.age, .int .i64 h0.hold, .int .i64 h0.pos, .slice (some ⟨g, 0, none⟩) n cp, .int .i64 (h1.ag 0), .int .i64 (h1.ag 1), .int .i64 (h1.ag 2), .int .i64 (h1.ag 3), .int .i64 (h1.ag 4), .int .i64 (h1.ag 5), .int .i64 (h1.ag 6), .int .i64 (h1.ag 7), .int .i64 h1.port, .int .i64 h1.age, .int .i64 h1.hold, .int .i64 h1.pos, .slice A1 n k1]) := Lib.hid ((T4.out.set 12 (.slice (some ⟨g, 0, none⟩) n cp) (by simp)).cast rfl)
  have UB := Lib.hid (TB.out.setCell (p := ⟨N, 12, none⟩) (show w.heap.size ≤ N by omega) (.slice (some ⟨g, 0, none⟩) n cp))
  have RC2 := Lib.hid (RC.out.far N 12 (.slice (some ⟨g, 0, none⟩) n cp) (by omega))
  clear RC
  have RC := RC2
  clear RC2
  clear e0 e1 g12 f12 T0 T2 T3 T4 TB
  generalize w3.setCell ⟨N, 12, none⟩ (.slice (some ⟨g, 0, none⟩) n cp) = w4 at *
  have e0 := U2.at_ 0 (.bool false) rfl
  clear U2
  go_upto_region 7 with fail
  go_step
  refine Kit.wpList_load_row rfl 142 (.tmp 7) rfl N 0 rfl U4.out [.int .i64 (h0.ag 0), .int .i64 (h0.ag 1), .int .i64 (h0.ag 2), .int .i64 (h0.ag 3), .int .i64 (h0.ag 4), .int .i64 (h0.ag 5), .int .i64 (h0.ag 6), .int .i64 (h0.ag 7), .int .i64 h0.port, .int .i64 h0.age, .int .i64 h0.hold, .int .i64 h0.pos, .slice (some ⟨g, 0, none⟩) n cp, .int .i64 (h1.ag 0), .int .i64 (h1.ag 1), .int .i64 (h1.ag 2), .int .i64 (h1.ag 3), .int .i64 (h1.ag 4), .int .i64 (h1.ag 5), .int .i64 (h1.ag 6), .int .i64 (h1.ag 7), .int .i64 h1.port, .int .i64 h1.age, .int .i64 h1.hold, .int .i64 h1.pos, .slice A1 n k1] rfl _ Tryz.underlying142 rfl sizeSides ?_
  refine Kit.wpList_store_row rfl 142 (.tmp 6) (.tmp 41) rfl (w.heap.size + 1 + 1 + 1) 0 #[.int .i64 (h0.ag 0), .int .i64 (h0.ag 1), .int .i64 (h0.ag 2), .int .i64 (h0.ag 3), .int .i64 (h0.ag 4), .int .i64 (h0.ag 5), .int .i64 (h0.ag 6), .int .i64 (h0.ag 7), .int .i64 h0.port, .int .i64 h0.age, .int .i64 h0.hold, .int .i64 h0.pos, .slice (some ⟨g, 0, none⟩) n cp, .int .i64 (h1.ag 0), .int .i64 (h1.ag 1), .int .i64 (h1.ag 2), .int .i64 (h1.ag 3), .int .i64 (h1.ag 4), .int .i64 (h1.ag 5), .int .i64 (h1.ag 6), .int .i64 (h1.ag 7), .int .i64 h1.port, .int .i64 h1.age, .int .i64 h1.hold, .int .i64 h1.pos, .slice A1 n k1] rfl rfl U3.out (by simp) sizeSides (by first | rfl | (simp [Value.oneCell']; done) | decide) ?_
  intro W3 hW3
  have X3 := U3.out.all hW3 rfl
  have XB := Kit.below_of UB.out hW3 (by omega)
  have hlt := X3.lt
  have RX := RC.out.off hW3 (by omega)
  clear hW3
  go_wp2_with fail
  refine bodyPost_ret (Kit.res_c Tryz.results97 _ _ (Kit.Var.mk' X3 Tryz.underlying142 rfl sizeSides)) rfl ⟨_, _, _, _, rfl, frames_of_row hlen RX, FB.out.below XB, Or.inr ⟨g, rfl, by omega⟩, Or.inl rfl, XB⟩
 ·have g12 := T4.out.at_ 12 (.slice A0 n k0) rfl
  have f12 := T4.out.free 12 (by simp)
  have lt4 := T4.out.lt
  go_upto_region 5 with fail
  have U0 := Lib.hid (T0.out.far N 12 (.slice (some ⟨g, 0, none⟩) n cp) (by omega))
  have U2 := T2.out.far N 12 (.slice (some ⟨g, 0, none⟩) n cp) (by omega)
  have U3 := Lib.hid (T3.out.far N 12 (.slice (some ⟨g, 0, none⟩) n cp) (by omega))
  have U4 : Hid (Kit.Row (w3.setCell ⟨N, 12, none⟩ (.slice (some ⟨g, 0, none⟩) n cp)) N [.int .i64 (h0.ag 0), .int .i64 (h0.ag 1), .int .i64 (h0.ag 2), .int .i64 (h0.ag 3), .int .i64 (h0.ag 4), .int .i64 (h0.ag 5), .int .i64 (h0.ag 6), .int .i64 (h0.ag 7), .int .i64 h0.port, .int .i64 h0.age, .int .i64 h0.hold, .int .i64 h0.pos, .slice (some ⟨g, 0, none⟩) n cp, .int .i64 (h1.ag 0), .int .i64 (h1.ag 1), .int .i64 (h1.ag 2), .int .i64 (h1.ag 3), .int .i64 (h1.ag 4), .int .i64 (h1.ag 5), .int .i64 (h1.ag 6), .int .i64 (h1.ag 7), .int .i64 h1.port, .int .i64 h1.age, .int .i64 h1.hold, .int .i64 h1.pos, .slice A1 n k1]) := Lib.hid ((T4.out.set 12 (.slice (some ⟨g, 0, none⟩) n cp) (by simp)).cast rfl)
  have UB := Lib.hid (TB.out.setCell (p := ⟨N, 12, none⟩) (show w.heap.size ≤ N by omega) (.slice (some ⟨g, 0, none⟩) n cp))
  have RC2 := Lib.hid (RC.out.far N 12 (.slice (some ⟨g, 0, none⟩) n cp) (by omega))
  clear RC
  have RC := RC2
  clear RC2
  clear e0 e1 g12 f12 T0 T2 T3 T4 TB
  generalize w3.setCell ⟨N, 12, none⟩ (.slice (some ⟨g, 0, none⟩) n cp) = w4 at *
  have e0 := U2.at_ 0 (.bool true) rfl
  clear U2
  go_upto_region 6 with fail
  have c0 := U0.out.at_ 0 (.int .i64 (h0.ag 0)) rfl
  have c1 := U0.out.at_ 1 (.int .i64 (h0.ag 1)) rfl
  have c2 := U0.out.at_ 2 (.int .i64 (h0.ag 2)) rfl
  have c3 := U0.out.at_ 3 (.int .i64 (h0.ag 3)) rfl
  have c4 := U0.out.at_ 4 (.int .i64 (h0.ag 4)) rfl
  have c5 := U0.out.at_ 5 (.int .i64 (h0.ag 5)) rfl
  have c6 := U0.out.at_ 6 (.int .i64 (h0.ag 6)) rfl
  have c7 := U0.out.at_ 7 (.int .i64 (h0.ag 7)) rfl
  have c8 := U0.out.at_ 8 (.int .i64 h0.port) rfl
  have c9 := U0.out.at_ 9 (.int .i64 h0.age) rfl
  have c10 := U0.out.at_ 10 (.int .i64 h0.hold) rfl
  have c11 := U0.out.at_ 11 (.int .i64 h0.pos) rfl
  have ltn := U4.out.lt
  iterate 16 (first | go_guarded | go_step | go_upon | go_back)
  refine Kit.wpList_store_row rfl 141 (.tmp 40) (.tmp 39) rfl N 13 #[.int .i64 (h0.ag 0), .int .i64 (h0.ag 1), .int .i64 (h0.ag 2), .int .i64 (h0.ag 3), .int .i64 (h0.ag 4), .int .i64 (h0.ag 5), .int .i64 (h0.ag 6), .int .i64 (h0.ag 7), .int .i64 h0.port, .int .i64 h0.age, .int .i64 h0.hold, .int .i64 h0.pos, .slice (some ⟨g, 0, none⟩) n cp] rfl rfl U4.out (by simp) sizeSide (by first | rfl | (simp [Value.oneCell']; done) | decide) ?_
  intro W2 hW2
  have V3 := Lib.hid (U3.out.off hW2 (by omega))
  have V4 : Hid (Kit.Row W2 N [.int .i64 (h0.ag 0), .int .i64 (h0.ag 1), .int .i64 (h0.ag 2), .int .i64 (h0.ag 3), .int .i64 (h0.ag 4), .int .i64 (h0.ag 5), .int .i64 (h0.ag 6), .int .i64 (h0.ag 7), .int .i64 h0.port, .int .i64 h0.age, .int .i64 h0.hold, .int .i64 h0.pos, .slice (some ⟨g, 0, none⟩) n cp, .int .i64 (h0.ag 0), .int .i64 (h0.ag 1), .int .i64 (h0.ag 2), .int .i64 (h0.ag 3), .int .i64 (h0.ag 4), .int .i64 (h0.ag 5), .int .i64 (h0.ag 6), .int .i64 (h0.ag 7), .int .i64 h0.port, .int .i64 h0.age, .int .i64 h0.hold, .int .i64 h0.pos, .slice (some ⟨g, 0, none⟩) n cp]) := Lib.hid ((U4.out.on hW2 (by simp)).cast rfl)
  have VB := Lib.hid (Kit.below_of UB.out hW2 (by omega))
  have RC2 := Lib.hid (RC.out.off hW2 (by omega))
  clear RC
  have RC := RC2
  clear RC2
  clear hW2 c0 c1 c2 c3 c4 c5 c6 c7 c8 c9 c10 c11 e0
  go_upto_region 7 with fail
  go_step
  refine Kit.wpList_load_row rfl 142 (.tmp 7) rfl N 0 rfl V4.out [.int .i64 (h0.ag 0), .int .i64 (h0.ag 1), .int .i64 (h0.ag 2), .int .i64 (h0.ag 3), .int .i64 (h0.ag 4), .int .i64 (h0.ag 5), .int .i64 (h0.ag 6), .int .i64 (h0.ag 7), .int .i64 h0.port, .int .i64 h0.age, .int .i64 h0.hold, .int .i64 h0.pos, .slice (some ⟨g, 0, none⟩) n cp, .int .i64 (h0.ag 0), .int .i64 (h0.ag 1), .int .i64 (h0.ag 2), .int .i64 (h0.ag 3), .int .i64 (h0.ag 4), .int .i64 (h0.ag 5), .int .i64 (h0.ag 6), .int .i64 (h0.ag 7), .int .i64 h0.port, .int .i64 h0.age, .int .i64 h0.hold, .int .i64 h0.pos, .slice (some ⟨g, 0, none⟩) n cp] rfl _ Tryz.underlying142 rfl sizeSides ?_
  refine Kit.wpList_store_row rfl 142 (.tmp 6) (.tmp 41) rfl (w.heap.size + 1 + 1 + 1) 0 #[.int .i64 (h0.ag 0), .int .i64 (h0.ag 1), .int .i64 (h0.ag 2), .int .i64 (h0.ag 3), .int .i64 (h0.ag 4), .int .i64 (h0.ag 5), .int .i64 (h0.ag 6), .int .i64 (h0.ag 7), .int .i64 h0.port, .int .i64 h0.age, .int .i64 h0.hold, .int .i64 h0.pos, .slice (some ⟨g, 0, none⟩) n cp, .int .i64 (h0.ag 0), .int .i64 (h0.ag 1), .int .i64 (h0.ag 2), .int .i64 (h0.ag 3), .int .i64 (h0.ag 4), .int .i64 (h0.ag 5), .int .i64 (h0.ag 6), .int .i64 (h0.ag 7), .int .i64 h0.port, .int .i64 h0.age, .int .i64 h0.hold, .int .i64 h0.pos, .slice (some ⟨g, 0, none⟩) n cp] rfl rfl V3.out (by simp) sizeSides (by first | rfl | (simp [Value.oneCell']; done) | decide) ?_
  intro W3 hW3
  have X3 := V3.out.all hW3 rfl
  have XB := Kit.below_of VB.out hW3 (by omega)
  have hlt := X3.lt
  have RX := RC.out.off hW3 (by omega)
  clear hW3
  go_wp2_with fail
  refine bodyPost_ret (Kit.res_c Tryz.results97 _ _ (Kit.Var.mk' X3 Tryz.underlying142 rfl sizeSides)) rfl ⟨_, _, _, _, rfl, frames_of_row hlen RX, frames_of_row hlen RX, Or.inr ⟨g, rfl, by omega⟩, Or.inr ⟨g, rfl, by omega⟩, XB⟩
end Link
end Go.Proofs.YtgiojagdmglinaaGreatDoor
