/- What the table of who is alive computes, over lists: no program in sight. -/
import Derived.Test.YtlihiiaabfkhaaaLib
namespace Go.Proofs.Ytlihiiaabfkhaaa
open Go.RowKit

structure One where
  known : Bool
  heard : Bool
  out : Bool
  life : Int
  age : Int
def One.zero : One := ⟨false, false, false, 0, 0⟩
def One.cells (o : One) : List Value := [.bool o.known, .bool o.heard, .bool o.out, .int .i64 o.life, .int .i64 o.age]
theorem One.len (o : One) : o.cells.length = 5 := rfl
structure Tab where
  l : List One
  seen : Int
def Tab.cells (t : Tab) : List Value := t.l.flatMap One.cells ++ [.int .i64 t.seen]
def Tab.zero : Tab := ⟨List.replicate 16 One.zero, 0⟩
def One.ok (o : One) : Prop := 0 ≤ o.age ∧ o.age ≤ 4 ∧ (o.heard = true → o.age ≤ 3)
def Tab.ok (t : Tab) : Prop := t.l.length = 16 ∧ ∀ o ∈ t.l, o.ok
theorem Tab.ok_zero : Tab.zero.ok := ⟨by simp [Tab.zero], fun o ho => by
  have : o = One.zero := by simpa [Tab.zero] using ho
  subst this
  exact ⟨by decide, by decide, fun h => by cases h⟩⟩

def Tab.at (t : Tab) (k : Nat) : One := t.l.getD k One.zero
theorem Tab.at_get {t : Tab} {k : Nat} (h : k < t.l.length) : t.l[k]? = some (t.at k) := by
  simp [Tab.at, List.getD_eq_getElem?_getD, List.getElem?_eq_getElem h]
theorem Tab.at_ok {t : Tab} (h : t.ok) {k : Nat} (hk : k < 16) : (t.at k).ok :=
  h.2 _ (List.mem_of_getElem? (Tab.at_get (by rw [h.1]; exact hk)))

def Tab.put (t : Tab) (k : Nat) (o : One) : Tab := ⟨t.l.set k o, t.seen⟩
theorem Tab.put_ok {t : Tab} (h : t.ok) (k : Nat) {o : One} (ho : o.ok) : (t.put k o).ok := by
  refine ⟨by simpa [Tab.put] using h.1, fun x hx => ?_⟩
  rcases List.mem_or_eq_of_mem_set hx with hx | rfl
  · exact h.2 _ hx
  · exact ho

theorem Tab.cell (t : Tab) {k : Nat} (hk : k < t.l.length) {j : Nat} (hj : j < 5) : t.cells[k * 5 + j]? = (t.at k).cells[j]? :=
  flat_get One.len t.l _ k j _ (Tab.at_get hk) hj
theorem Tab.cell_seen (t : Tab) (h : t.l.length = 16) : t.cells[80]? = some (.int .i64 t.seen) := by
  unfold Tab.cells
  rw [List.getElem?_append_right (by rw [flat_length One.len, h]; decide), flat_length One.len, h]
  rfl
theorem Tab.set_cell (t : Tab) {k : Nat} (hk : k < t.l.length) {j : Nat} (hj : j < 5) (v : Value) (o : One) (ho : (t.at k).cells.set j v = o.cells) : t.cells.set (k * 5 + j) v = (t.put k o).cells :=
  flat_set One.len t.l _ k j _ _ _ (Tab.at_get hk) hj ho
theorem Tab.set_seen (t : Tab) (h : t.l.length = 16) (n : Int) : t.cells.set 80 (.int .i64 n) = (Tab.mk t.l n).cells := by
  unfold Tab.cells
  rw [List.set_append_right _ _ (by rw [flat_length One.len, h]; decide), flat_length One.len, h]
  rfl
theorem Tab.put_put (t : Tab) (k : Nat) (a b : One) : (t.put k a).put k b = t.put k b := by simp [Tab.put]
theorem Tab.at_put (t : Tab) {k : Nat} (hk : k < t.l.length) (o : One) : (t.put k o).at k = o := by
  simp [Tab.put, Tab.at, List.getD_eq_getElem?_getD, hk]

/-- Is there such a car, and may the numbers be, and is no greater life known? -/
def Tab.takes (t : Tab) (n life seen : Int) : Bool :=
  decide (0 ≤ n) && decide (n < 16) && decide (0 ≤ life) && decide (0 ≤ seen) && !((t.at n.toNat).known && decide (life < (t.at n.toNat).life))
def Tab.hear (t : Tab) (n life seen : Int) (out : Bool) : Tab :=
  if t.takes n life seen = true then ⟨t.l.set n.toNat ⟨true, true, out, life, 0⟩, max t.seen seen⟩ else t
theorem Tab.hear_ok {t : Tab} (h : t.ok) (n life seen : Int) (out : Bool) : (t.hear n life seen out).ok := by
  unfold Tab.hear
  split
  · exact Tab.put_ok h n.toNat (o := ⟨true, true, out, life, 0⟩) ⟨by simp, by simp, by simp⟩
  · exact h
/-- How a row of five fields is written whole. -/
theorem Tab.set_five (t : Tab) {k : Nat} (hk : k < t.l.length) (o : One) :
    ((((t.cells.set (k * 5) (.bool o.known)).set (k * 5 + 1) (.bool o.heard)).set (k * 5 + 2) (.bool o.out)).set (k * 5 + 3) (.int .i64 o.life)).set (k * 5 + 4) (.int .i64 o.age) = (t.put k o).cells := by
  have h0 := Tab.set_cell t hk (j := 0) (by omega) (.bool o.known) { t.at k with known := o.known } rfl
  rw [Nat.add_zero] at h0
  have hl : ∀ x, (t.put k x).l.length = t.l.length := fun x => by simp [Tab.put]
  rw [h0, Tab.set_cell _ (by rw [hl]; exact hk) (j := 1) (by omega) _ { t.at k with known := o.known, heard := o.heard } (by rw [Tab.at_put t hk]; rfl), Tab.put_put,
    Tab.set_cell _ (by rw [hl]; exact hk) (j := 2) (by omega) _ { t.at k with known := o.known, heard := o.heard, out := o.out } (by rw [Tab.at_put t hk]; rfl), Tab.put_put,
    Tab.set_cell _ (by rw [hl]; exact hk) (j := 3) (by omega) _ { t.at k with known := o.known, heard := o.heard, out := o.out, life := o.life } (by rw [Tab.at_put t hk]; rfl), Tab.put_put,
    Tab.set_cell _ (by rw [hl]; exact hk) (j := 4) (by omega) _ o (by rw [Tab.at_put t hk]; rfl), Tab.put_put]

def One.tick (o : One) : One := if o.heard = true then ⟨o.known, decide (o.age + 1 ≤ 3), o.out, o.life, o.age + 1⟩ else o
theorem One.tick_ok {o : One} (h : o.ok) : o.tick.ok := by
  unfold One.tick
  obtain ⟨h0, h1, h2⟩ := h
  split
  · rename_i hh
    have := h2 hh
    exact ⟨by simp; omega, by simp; omega, fun h => by simpa using h⟩
  · exact ⟨h0, h1, h2⟩
def Tab.tick (t : Tab) : Tab := ⟨t.l.map One.tick, t.seen⟩
theorem Tab.tick_ok {t : Tab} (h : t.ok) : t.tick.ok := ⟨by simpa [Tab.tick] using h.1, fun o ho => by
  simp only [Tab.tick, List.mem_map] at ho
  obtain ⟨x, hx, rfl⟩ := ho
  exact One.tick_ok (h.2 x hx)⟩
/-- The first k are older. -/
def Tab.tickTo (t : Tab) (k : Nat) : Tab := ⟨(t.l.take k).map One.tick ++ t.l.drop k, t.seen⟩
theorem Tab.tickTo_zero (t : Tab) : t.tickTo 0 = t := by simp [Tab.tickTo]
theorem Tab.tickTo_all (t : Tab) (h : t.l.length = 16) : t.tickTo 16 = t.tick := by simp [Tab.tickTo, Tab.tick, ← h]
theorem Tab.tickTo_len (t : Tab) (k : Nat) : (t.tickTo k).l.length = t.l.length := by simp [Tab.tickTo]; omega
theorem Tab.tickTo_at (t : Tab) {k : Nat} (h : k < t.l.length) : (t.tickTo k).at k = t.at k := by
  simp [Tab.tickTo, Tab.at, List.getD_eq_getElem?_getD, List.getElem?_append_right, Nat.min_eq_left (Nat.le_of_lt h)]
theorem Tab.tickTo_succ (t : Tab) {k : Nat} (h : k < t.l.length) : t.tickTo (k + 1) = (t.tickTo k).put k (t.at k).tick := by
  have e : t.at k = t.l[k] := by simp [Tab.at, List.getD_eq_getElem?_getD, List.getElem?_eq_getElem h]
  simp only [Tab.tickTo, Tab.put, Tab.mk.injEq, and_true, e]
  rw [List.set_append_right _ _ (by simp; omega), List.take_succ_eq_append_getElem h, List.map_append]
  simp only [List.length_map, List.length_take, Nat.min_eq_left (Nat.le_of_lt h), Nat.sub_self, List.map_cons, List.map_nil, List.append_assoc]
  rw [List.drop_eq_getElem_cons h]
  rfl

def One.alive (o : One) : Bool := o.heard && !o.out
def Tab.aliveTo (t : Tab) (k : Nat) : List Int := ((List.range k).filter fun i => (t.at i).alive).map Int.ofNat
def Tab.alive (t : Tab) : List Int := t.aliveTo 16
theorem Tab.aliveTo_succ (t : Tab) (k : Nat) : t.aliveTo (k + 1) = t.aliveTo k ++ if (t.at k).alive = true then [(k : Int)] else [] := by
  unfold Tab.aliveTo
  rw [List.range_succ, List.filter_append, List.map_append]
  congr 1
  by_cases h : (t.at k).alive = true <;> simp [h]
theorem Tab.aliveTo_length (t : Tab) (k : Nat) : (t.aliveTo k).length ≤ k := by
  unfold Tab.aliveTo
  rw [List.length_map]
  exact Nat.le_trans (List.length_filter_le _ _) (by simp)

def Tab.has (t : Tab) (n : Int) : Bool := decide (0 ≤ n) && decide (n < 16) && (t.at n.toNat).known
def Tab.lifeOf (t : Tab) (n : Int) : Int := if t.has n = true then (t.at n.toNat).life else 0

/-! The document's table: five rows of numbers. -/
def Tab.refCells (t : Tab) : List Value :=
  t.l.map (fun o => .int .i64 o.life) ++ (t.l.map (fun o => .bool o.known) ++ (t.l.map (fun o => .bool o.heard) ++ (t.l.map (fun o => .bool o.out) ++ (t.l.map (fun o => .int .i64 o.age) ++ [.int .i64 t.seen]))))
end Go.Proofs.Ytlihiiaabfkhaaa
