/- The gate laws' arguments, opened to plain data. -/
import Derived.Test.YtioaapgpcpepmaaOpen
import Derived.Test.YtioaapgpcpepmaaGateWalks
namespace Go.Proofs.Ytioaapgpcpepmaa
open Go.RowKit Go.Deep Go.ChangeShapes Go.WideShapes

theorem row_epoch : fieldRow Try.prog 28 = some [(2, 0), (3, 1)] := by kernel_rfl
theorem cells_epoch : Try.prog.cellsOf 28 = 2 := by kernel_rfl
theorem cells_int : Try.prog.cellsOf 3 = 1 := by kernel_rfl
theorem cells_int64 : Try.prog.cellsOf 2 = 1 := by kernel_rfl
section
variable {H : Type} {enc : TypeId × Value → H} {w : World} {base : Nat} {spare : Nat → Bool} {held : Bool}
theorem open_epoch (n : Nat) (cs : List Value) (x : DataW H × List MemPlace) (h : DataW.trod enc Try.prog w base spare held n 28 cs = some x) : ∃ c f : Int, cs = [.int .i64 c, .int .i64 f] := by
  obtain ⟨hl, n, hf⟩ := open_struct row_epoch h
  rw [cells_epoch] at hl
  obtain ⟨c0, c1, rfl⟩ := list2 hl
  obtain ⟨y0, h0⟩ := hf 0 _ rfl
  obtain ⟨y1, h1⟩ := hf 1 _ rfl
  simp only [cells_int, cells_int64] at h0 h1
  obtain ⟨a0, e0, _, _⟩ := DataW.trod_int Try.underlying2 h0
  obtain ⟨a1, e1, _, _⟩ := DataW.trod_int Try.underlying3 h1
  simp at e0 e1
  exact ⟨a0, a1, by rw [e0, e1]⟩
end
end Go.Proofs.Ytioaapgpcpepmaa
