/-
  The cluster without bytes and memory: a hub's tick, a node's tick, plain functions. No program.
-/
import Derived.Test.YtpbkoooljelhjaaVw0
import Derived.Test.YtpbkoooljelhjaaWire0
namespace Go.Proofs.Ytpbkoooljelhjaa
set_option linter.unusedVariables false
set_option linter.unusedSimpArgs false

/-- A hub: how long ago each port said an Info; the port of the last Cs, and how long ago; how long it holds a slot still, and which is now. -/
structure Hb where
  ages : List Int
  port : Int
  age : Int
  hold : Int
  pos : Int
deriving DecidableEq
def Hb.ag (h : Hb) (p : Nat) : Int := h.ages.getD p 0
def Hb.zero : Hb := ⟨[0, 0, 0, 0, 0, 0, 0, 0], 0, 0, 0, 0⟩
def frAt (l : List Fr) (p : Nat) : Fr := l.getD p Fr.none
def ndAt (l : List Nd) (i : Nat) : Nd := l.getD i Nd.zero

namespace Wm
def up (c m : Int) : Int := if max c 0 < m then max c 0 + 1 else m
def nx (n p : Int) : Int := if p = n - 1 then 0 else p + 1
/-- A list of eight, by place. -/
def eight (f : Nat → Int) : List Int := (List.range 8).map f
theorem eight_at (f : Nat → Int) (p : Nat) (h : p < 8) : (eight f).getD p 0 = f p := by
  unfold eight
  rw [List.getD_eq_getElem?_getD, List.getElem?_map, List.getElem?_range h]
  rfl
/-- May a hub be? -/
structure Right (n : Nat) (h : Hb) : Prop where
  len : h.ages.length = 8
  ag : ∀ p, p < n → 0 ≤ h.ag p ∧ h.ag p ≤ n
  no : ∀ p, n ≤ p → h.ag p = 0
  age : 0 ≤ h.age ∧ h.age ≤ 2 * n + 1
  hold : 0 ≤ h.hold ∧ h.hold ≤ 2 * n
  port : 0 ≤ h.port ∧ h.port < n
  pos : 0 ≤ h.pos ∧ h.pos < n
/-- The most that a port's age may be. -/
def most (n p : Nat) : Int := if p < n then n else 0
def fresh (n : Nat) : Hb := ⟨eight (most n), 0, 2 * n + 1, 0, 0⟩
def tick (n : Nat) (h : Hb) : Hb := ⟨eight fun p => up (h.ag p) (most n p), h.port, up h.age (2 * n + 1), max h.hold 1 - 1, nx n h.pos⟩
def note (n : Nat) (h : Hb) (l : List Fr) : Hb := { h with ages := eight fun p => if p < n ∧ (frAt l p).k = 2 then 0 else h.ag p }
/-- Does a port vote for a slot? -/
def says (n : Nat) (h : Hb) (v p : Nat) : Bool := decide (h.ag p < n) && ((p : Int) + h.ag p) % n == v
def asks (n : Nat) (h : Hb) (v p : Nat) : Bool := (h.port == p && decide (h.age < 2 * n)) && ((p : Int) + h.age) % n == v
def votes (n : Nat) (h : Hb) (v : Nat) : Nat := ((List.range n).filter fun p => says n h v p || asks n h v p).length
def tally (n : Nat) (h : Hb) : List Nat := (List.range n).map (votes n h)
def best (n : Nat) (h : Hb) : Nat × Nat := let l := tally n h; let m := l.foldl max 0; (l.idxOf m, m)
def chosen (n : Nat) (h : Hb) : Nat × Nat := if h.hold = 0 then best n h else (h.pos.toNat, votes n h h.pos.toNat)
def settle (n : Nat) (h : Hb) : Hb := if 2 ≤ (chosen n h).2 then { h with pos := (chosen n h).1, hold := 2 * n } else h
/-- The first port that says a Cs. -/
def firstCs (l : List Fr) : Option Nat := l.findIdx? fun f => f.k == 1
def relay (n : Nat) (h : Hb) (l : List Fr) : Hb × Fr :=
  if 0 < h.hold then
    if (frAt l h.pos.toNat).k = 2 then ({ h with hold := 2 * n }, frAt l h.pos.toNat) else (h, Fr.none)
  else match firstCs l with
    | none => (h, Fr.none)
    | some p => if h.age ≤ 2 * n then (h, Fr.none) else (⟨eight fun i => if i < n then n else h.ag i, p, 0, h.hold, h.pos⟩, frAt l p)
def hub (n : Nat) (h : Hb) (l : List Fr) : Hb × Fr := relay n (settle n (note n (tick n h) l)) l

/-- What a node says. -/
def wait (n : Nat) (x : Nd) : Int := (if x.md = 1 then 4 * n else 2 * n) + x.id + 1
def cs (n : Nat) (x : Nd) : Bool := (x.md == 1 || x.md == 2) && decide (wait n x ≤ x.ct)
def say (n : Nat) (x : Nd) : Fr := if x.md = 3 ∧ x.ps = x.id then ⟨2, x.id⟩ else if cs n x then ⟨1, x.id⟩ else Fr.none
/-- What is heard of two frames. -/
def hears (p : Fr → Bool) (a b : Fr) : Option Int := if p a then some a.i else if p b then some b.i else none
def info (a b : Fr) : Option Int := hears (fun f => f.k == 2) a b
def other (i : Int) (a b : Fr) : Option Int := hears (fun f => f.k == 1 && f.i != i) a b
def wrong (s : Int) (a b : Fr) : Bool := (a.k == 2 && a.i != s) || (b.k == 2 && b.i != s)
def match_ (s : Int) (a b : Fr) : Bool := (a.k == 2 && a.i == s) || (b.k == 2 && b.i == s)
def join (n : Nat) (x : Nd) (j : Int) : Nd := ⟨x.id, 3, 0, nx n j⟩
def become (x : Nd) (m : Int) : Nd := ⟨x.id, m, 0, 0⟩
def mostCount : Int := 1073741824
def later (x : Nd) : Nd := { x with ct := up x.ct mostCount }
def listen (n : Nat) (x : Nd) (a b : Fr) : Nd :=
  match info a b with
  | some j => join n x j
  | none => if (other x.id a b).isSome || cs n x then become x 2 else later x
def cold (n : Nat) (x : Nd) (a b : Fr) : Nd :=
  match info a b with
  | some j => join n x j
  | none => match other x.id a b with
    | some j => join n x j
    | none => if cs n x then become x 2 else later x
def active (n : Nat) (x : Nd) (a b : Fr) : Nd :=
  if wrong x.ps a b then become x 1 else if (other x.id a b).isSome then become x 2
  else
    let c := if match_ x.ps a b then 0 else up x.ct mostCount
    if 8 * n ≤ c then become x 1 else ⟨x.id, 3, c, nx n x.ps⟩
def act (n : Nat) (x : Nd) (a b : Fr) : Nd := if x.md = 1 then listen n x a b else if x.md = 2 then cold n x a b else active n x a b
/-- May a node be? -/
structure NRight (n i : Nat) (x : Nd) : Prop where
  id : x.id = i
  md : 0 ≤ x.md ∧ x.md ≤ 3
  ct : 0 ≤ x.ct ∧ x.ct ≤ mostCount
  ps : 0 ≤ x.ps ∧ x.ps < n
  init : x.md = 0 → x.ct = 0
  rest : x.md ≠ 3 → x.ps = 0
end Wm
end Go.Proofs.Ytpbkoooljelhjaa
