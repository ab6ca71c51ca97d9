/- What is told to a table, as an argument: a slice of structs, opened to plain data. -/
import Derived.Test.YtlihiiaabfkhaaaOpen
import Derived.Test.YtlihiiaabfkhaaaLivePlaysWalk
namespace Go.Proofs.Ytlihiiaabfkhaaa
open Go.RowKit Go.Deep Go.ChangeShapes Go.WideShapes

theorem row_do : fieldRow Try.prog 48 = some [(3, 0), (3, 1), (2, 2), (2, 3), (4, 4)] := by kernel_rfl
theorem cells_do : Try.prog.cellsOf 48 = 5 := by kernel_rfl
theorem cells_int : Try.prog.cellsOf 3 = 1 := by kernel_rfl
theorem cells_int64 : Try.prog.cellsOf 2 = 1 := by kernel_rfl
theorem cells_bool : Try.prog.cellsOf 4 = 1 := by kernel_rfl
section
variable {H : Type} {enc : TypeId × Value → H} {w : World} {base : Nat} {spare : Nat → Bool} {held : Bool}
theorem open_do (n : Nat) (cs : List Value) (x : DataW H × List MemPlace) (h : DataW.trod enc Try.prog w base spare held n 48 cs = some x) : ∃ d : DoL, cs = d.cells ∧ True := by
  obtain ⟨hl, n, hf⟩ := open_struct row_do h
  rw [cells_do] at hl
  obtain ⟨c0, c1, c2, c3, c4, rfl⟩ := list5 hl
  obtain ⟨y0, h0⟩ := hf 0 _ rfl
  obtain ⟨y1, h1⟩ := hf 1 _ rfl
  obtain ⟨y2, h2⟩ := hf 2 _ rfl
  obtain ⟨y3, h3⟩ := hf 3 _ rfl
  obtain ⟨y4, h4⟩ := hf 4 _ rfl
  simp only [cells_int, cells_int64, cells_bool] at h0 h1 h2 h3 h4
  obtain ⟨a0, e0, _, _⟩ := DataW.trod_int Try.underlying3 h0
  obtain ⟨a1, e1, _, _⟩ := DataW.trod_int Try.underlying3 h1
  obtain ⟨a2, e2, _, _⟩ := DataW.trod_int Try.underlying2 h2
  obtain ⟨a3, e3, _, _⟩ := DataW.trod_int Try.underlying2 h3
  obtain ⟨a4, e4, _⟩ := DataW.trod_bool Try.underlying4 h4
  simp at e0 e1 e2 e3 e4
  exact ⟨⟨a0, a1, a2, a3, a4⟩, by simp [DoL.cells, e0, e1, e2, e3, e4], trivial⟩
end
end Go.Proofs.Ytlihiiaabfkhaaa
