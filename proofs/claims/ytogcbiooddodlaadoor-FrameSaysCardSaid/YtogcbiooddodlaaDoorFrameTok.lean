/- Frames: rings as plain data; what is amiss with one; how an entry lies. -/
import Derived.Test.YtogcbiooddodlaaDoorFrameLeaf2
namespace Go.Proofs.YtogcbiooddodlaaDoor
open Go.RowKit
set_option linter.unusedSimpArgs false

/-- An entry, and where its bids lie. -/
structure EntL where
  floor : Int
  dir : Int
  gen : Int
  award : Int
  bids : List (Int × Int)
  A : Option Addr
  c : Nat
def EntL.cells (e : EntL) : List Value := [.int .i64 e.floor, .int .i64 e.dir, .int .i64 e.gen, .slice e.A e.bids.length e.c, .int .i64 e.award]
theorem EntL.len (e : EntL) : e.cells.length = 5 := rfl
def bidC (b : Int × Int) : List Value := [.int .i64 b.1, .int .i64 b.2]
theorem bidC_len (b : Int × Int) : (bidC b).length = 2 := rfl
def EntL.here (w : World) (e : EntL) : Prop := Sl w e.A (e.bids.flatMap bidC)
theorem EntL.on {w w' : World} {e : EntL} (h : e.here w) (hb : Below w.heap.size w w') : e.here w' := It2 h hb
/-- Do numbers rise? -/
def rises : List Int → Bool
  | a :: b :: l => decide (a < b) && rises (b :: l)
  | _ => true
def badBid (ms : List Int) (b : Int × Int) : Bool := !decide (b.1 ∈ ms) || decide (b.2 < 0) || decide (1048576 < b.2)
/-- Is an entry's call not behind the one's ahead? -/
def outOfRow (prev : Option EntL) (e : EntL) : Bool := match prev with
  | some p => decide (0 ≤ cmpC p.floor p.dir e.floor e.dir)
  | none => false
/-- What is amiss with an entry's own numbers. -/
def badCall (ms : List Int) (e : EntL) : Prop := e.floor < 0 ∨ 64 ≤ e.floor ∨ (e.dir ≠ 1 ∧ e.dir ≠ -1) ∨ e.gen < 1 ∨ 2147483647 < e.gen ∨ (e.award ≠ -1 ∧ e.award ∉ ms)
instance (ms : List Int) (e : EntL) : Decidable (badCall ms e) := by unfold badCall; infer_instance
/-- What is amiss with an entry: the error's number. -/
def entE (ms : List Int) (prev : Option EntL) (e : EntL) : Int :=
  if badCall ms e then 103
  else if outOfRow prev e then 111
  else if ms.length < e.bids.length then 104
  else if e.bids.any (badBid ms) then 103
  else if rises (e.bids.map (·.1)) then 0 else 111
/-- With the entry at k, in its place. -/
def entAt (ms : List Int) (es : List EntL) (k : Nat) : Int := match es[k]? with
  | some e => entE ms (if k = 0 then none else es[k - 1]?) e
  | none => 0
/-- The first entry that is amiss. -/
def entsE (ms : List Int) (es : List EntL) : Nat → Nat → Int
  | _, 0 => 0
  | k, n + 1 => if entAt ms es k = 0 then entsE ms es (k + 1) n else entAt ms es k
/-- What is amiss with a ring. -/
def ringE (count founder hop : Int) (ms : List Int) (es : List EntL) : Int :=
  if validE count founder = false ∨ hop < 0 ∨ 1099511627776 < hop then 103
  else if 16 < ms.length ∨ ms.length = 0 ∨ 128 < es.length then 104
  else if noCar ms then 103
  else if rises ms = false then 111
  else entsE ms es 0 es.length
theorem rises_iff : ∀ l : List Int, rises l = true ↔ ∀ j, j + 1 < l.length → l.getD j 0 < l.getD (j + 1) 0
  | [] => by simp [rises]
  | [a] => by simp [rises]
  | a :: b :: l => by
    have ih := rises_iff (b :: l)
    rw [rises, Bool.and_eq_true, decide_eq_true_eq, ih]
    constructor
    · rintro ⟨h0, h⟩ j hj
      cases j with
      | zero => simpa using h0
      | succ j => simpa using h j (by simpa using hj)
    · intro h
      exact ⟨by simpa using h 0 (by simp), fun j hj => by simpa using h (j + 1) (by simpa using hj)⟩
/-- What Valid hands on. -/
structure ErrsV (ad : Int → Addr) (w : World) : Prop where
  range : w.cell? ⟨0, 0, none⟩ = some (.iface 136 (.pointer (some (ad 103))))
  many : w.cell? ⟨4, 0, none⟩ = some (.iface 136 (.pointer (some (ad 104))))
  kind : w.cell? ⟨2, 0, none⟩ = some (.iface 136 (.pointer (some (ad 107))))
  twice : w.cell? ⟨5, 0, none⟩ = some (.iface 136 (.pointer (some (ad 111))))
theorem Errs.valid {ad : Int → Addr} {w : World} (h : Errs ad w) : ErrsV ad w :=
  ⟨h.cell (103, 0) (by decide), h.cell (104, 4) (by decide), h.cell (107, 2) (by decide), h.cell (111, 5) (by decide)⟩
theorem ErrsV.below {ad : Int → Addr} {w w' : World} (h : ErrsV ad w) (hb : Below w.heap.size w w') : ErrsV ad w' :=
  ⟨(hb.cell (lt_of_cell h.range)).trans h.range, (hb.cell (lt_of_cell h.many)).trans h.many, (hb.cell (lt_of_cell h.kind)).trans h.kind, (hb.cell (lt_of_cell h.twice)).trans h.twice⟩
end Go.Proofs.YtogcbiooddodlaaDoor
