/- Frames on their way, as plain data, and how they lie in memory. No program in sight. -/
import Derived.Test.YtnhfnklbeifbhaaLib
namespace Go.Proofs.Ytnhfnklbeifbhaa
open Go.RowKit

/-- A frame as it lies: to whom; its bytes, and where they lie. -/
structure It where
  dst : Int
  A : Option Addr
  c : Nat
  bs : List Int
def It.cells (x : It) : List Value := [.int .i64 x.dst, .slice x.A x.bs.length x.c]
def It.val (x : It) : Value := .agg #[.int .i64 x.dst, .slice x.A x.bs.length x.c]
theorem It.len (x : It) : x.cells.length = 2 := rfl
/-- Its bytes lie there. -/
def It.here (w : World) (x : It) : Prop := Sl w x.A (x.bs.map (Value.int .u8))
/-- The block of its bytes is none of these. -/
def It.off (S : Nat → Prop) (x : It) : Prop := ∀ a, x.A = some a → ¬ S a.block
theorem It.here_lt {w : World} {x : It} (h : x.here w) (hne : 0 < x.bs.length) : ∀ a, x.A = some a → a.block < w.heap.size := by
  obtain ⟨b, o, hA, hb, _⟩ := h.at (by simpa using hne)
  intro a ha
  rw [hA] at ha
  cases ha
  exact hb
theorem It.here.eff {S : Nat → Prop} {w w' : World} {x : It} (h : x.here w) (he : Eff S w w') (ho : x.off S) : x.here w' := Sl.eff h he ho
theorem It.here.below {w w' : World} {x : It} (h : x.here w) (hb : Below w.heap.size w w') : x.here w' := by
  rcases h with h | ⟨b, o, hA, hlt, hc⟩
  · exact .inl h
  · exact .inr ⟨b, o, hA, Nat.lt_of_lt_of_le hlt hb.size, fun k hk => (hb.cell (p := ⟨b, o + k, none⟩) hlt).trans (hc k hk)⟩

/-- Its bytes may be written. -/
def It.free (w : World) (x : It) : Prop := ∀ a, x.A = some a → ∀ o, w.frozen? ⟨a.block, o, none⟩ = false
theorem It.free.eff {S : Nat → Prop} {w w' : World} {x : It} (h : x.free w) (he : Eff S w w') (ho : x.off S) (hl : ∀ a, x.A = some a → a.block < w.heap.size) : x.free w' := fun a ha o => (he.frozen (hl a ha) (ho a ha)).trans (h a ha o)
/-- Frames on their way, as they lie: the struct in block b; the row of items; each item's bytes elsewhere. -/
structure MailAt (T E : TypeId) (w : World) (b : Nat) (v : Value) (its : List It) (lost : Int) : Prop where
  blk : Blk w b [v, .int .i64 lost] T
  row : w.ownsRow 0 E 2 v its.length (its.flatMap It.cells)
  nb : v.ownBlock ≠ some b
  here : ∀ x ∈ its, x.here w
  off : ∀ x ∈ its, x.off (fun k => k = b ∨ v.ownBlock = some k)
  old : ∀ x ∈ its, ∀ a, x.A = some a → a.block < w.heap.size
  free : ∀ x ∈ its, x.free w
/-- The blocks that a call on it may turn. -/
def MailOwn (b : Nat) (v : Value) (k : Nat) : Prop := k = b ∨ v.ownBlock = some k
theorem MailAt.lt {T E : TypeId} {w : World} {b : Nat} {v : Value} {its : List It} {lost : Int} (h : MailAt T E w b v its lost) : b < w.heap.size ∧ ∀ k, v.ownBlock = some k → k < w.heap.size :=
  ⟨h.blk.lt, fun k hk => (h.row.lt k hk).2⟩
theorem MailAt.eff {T E : TypeId} {S : Nat → Prop} {w w' : World} {b : Nat} {v : Value} {its : List It} {lost : Int} (h : MailAt T E w b v its lost) (he : Eff S w w') (h1 : ¬ S b) (h2 : ∀ k, v.ownBlock = some k → ¬ S k) (h3 : ∀ x ∈ its, x.off S) : MailAt T E w' b v its lost :=
  ⟨he.blk h.blk h1, he.row h.row h2, h.nb, fun x hx => (h.here x hx).eff he (h3 x hx), h.off, fun x hx a ha => Nat.lt_of_lt_of_le (h.old x hx a ha) he.size, fun x hx => (h.free x hx).eff he (h3 x hx) (h.old x hx)⟩
theorem MailAt.drew {T E : TypeId} {w : World} {b : Nat} {v : Value} {its : List It} {lost : Int} (h : MailAt T E w b v its lost) : MailAt T E w.drew b v its lost :=
  ⟨h.blk.drew, h.row.drew, h.nb, h.here, h.off, h.old, h.free⟩
theorem MailAt.below {T E : TypeId} {w w' : World} {b : Nat} {v : Value} {its : List It} {lost : Int} (h : MailAt T E w b v its lost) (hb : Below w.heap.size w w') : MailAt T E w' b v its lost :=
  h.eff (Eff.of_below (S := fun _ => False) hb) (fun h => h) (fun _ _ h => h) (fun _ _ _ _ h => h)
/-- An item's cells in the row. -/
theorem row_item {w : World} {E : TypeId} {v : Value} {its : List It} (h : w.ownsRow 0 E 2 v its.length (its.flatMap It.cells)) {k : Nat} {x : It} (hx : its[k]? = some x) :
    ∃ g cap, v = .slice (some ⟨g, 0, none⟩) its.length cap ∧ its.length ≤ cap ∧ cap ≤ maxLen ∧ w.cell? ⟨g, k * 2, none⟩ = some (.int .i64 x.dst) ∧ w.cell? ⟨g, k * 2 + 1, none⟩ = some (.slice x.A x.bs.length x.c) := by
  have hlt := (List.getElem?_eq_some_iff.1 hx).1
  rcases h.2 with ⟨_, h0⟩ | ⟨g, cap, cur, rfl, h3, h4, h5, h6, h7, h8⟩
  · omega
  · refine ⟨g, cap, rfl, h5, h6, ?_, ?_⟩
    · rw [World.ownsRow.cellAt h (k * 2) (by omega)]
      have := flat_get (f := It.cells) It.len its [] k 0 x hx (by omega)
      simpa [It.cells] using this
    · rw [World.ownsRow.cellAt h (k * 2 + 1) (by omega)]
      have := flat_get (f := It.cells) It.len its [] k 1 x hx (by omega)
      simpa [It.cells] using this
theorem cells_one (its : List It) : (its.flatMap It.cells).all (fun u => u.oneCell') = true := by
  induction its with
  | nil => rfl
  | cons x l ih =>
    rw [List.flatMap_cons, List.all_append, ih]
    rfl
theorem flat_put (its : List It) (i : Nat) (y : It) (hi : i < its.length) :
    ((its.flatMap It.cells).set (i * 2) (.int .i64 y.dst)).set (i * 2 + 1) (.slice y.A y.bs.length y.c) = (its.set i y).flatMap It.cells := by
  induction its generalizing i with
  | nil => simp at hi
  | cons x l ih =>
    cases i with
    | zero => simp [It.cells]
    | succ i =>
      have h := ih i (by simpa using hi)
      rw [List.set_cons_succ, List.flatMap_cons, List.flatMap_cons, ← h]
      simp only [It.cells]
      rw [show (i + 1) * 2 = i * 2 + 1 + 1 from by omega, show i * 2 + 1 + 1 + 1 = (i * 2 + 1) + 1 + 1 from rfl]
      simp [List.set_cons_succ]
end Go.Proofs.Ytnhfnklbeifbhaa
