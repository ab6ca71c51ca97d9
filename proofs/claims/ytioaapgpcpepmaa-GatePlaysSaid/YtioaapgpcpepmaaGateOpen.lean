/- The gate laws' arguments, opened to plain data. -/
import Derived.Test.YtioaapgpcpepmaaOpen
import Derived.ChangeSlices
import Derived.Test.YtioaapgpcpepmaaGateWalks
namespace Go.Proofs.Ytioaapgpcpepmaa
open Go.RowKit Go.Deep Go.ChangeShapes Go.WideShapes

theorem row_epoch : fieldRow Try.prog 28 = some [(2, 0), (3, 1)] := by kernel_rfl
theorem cells_epoch : Try.prog.cellsOf 28 = 2 := by kernel_rfl
theorem cells_int : Try.prog.cellsOf 3 = 1 := by kernel_rfl
theorem cells_int64 : Try.prog.cellsOf 2 = 1 := by kernel_rfl
section
variable {H : Type} {enc : TypeId × Value → H} {w : World} {base : Nat} {spare : Nat → Bool} {held : Bool}
theorem open_epoch (n : Nat) (cs : List Value) (x : DataW H × List MemPlace) (h : DataW.trod enc Try.prog w base spare held n 28 cs = some x) : ∃ c f : Int, cs = [.int .i64 c, .int .i64 f] := by
  obtain ⟨hl, n, hf⟩ := open_struct row_epoch h
  rw [cells_epoch] at hl
  obtain ⟨c0, c1, rfl⟩ := list2 hl
  obtain ⟨y0, h0⟩ := hf 0 _ rfl
  obtain ⟨y1, h1⟩ := hf 1 _ rfl
  simp only [cells_int, cells_int64] at h0 h1
  obtain ⟨a0, e0, _, _⟩ := DataW.trod_int Try.underlying2 h0
  obtain ⟨a1, e1, _, _⟩ := DataW.trod_int Try.underlying3 h1
  simp at e0 e1
  exact ⟨a0, a1, by rw [e0, e1]⟩

theorem row_ring : fieldRow Try.prog 32 = some [(28, 0), (2, 2), (29, 3), (30, 4)] := by kernel_rfl
theorem cells_ring : Try.prog.cellsOf 32 = 5 := by kernel_rfl
theorem cells_sints : Try.prog.cellsOf 29 = 1 := by kernel_rfl
theorem cells_sentries : Try.prog.cellsOf 30 = 1 := by kernel_rfl
theorem RingL.len (r : RingL) : r.cells.length = 5 := rfl
/-- A ring's members lie as they should. -/
def RingOk (w : World) (r : RingL) : Prop := Sl w r.mA (r.ms.map (Value.int .i64)) ∧ r.ms.length ≤ maxLen ∧ r.eN ≤ maxLen
theorem open_ring (n : Nat) (cs : List Value) (x : DataW H × List MemPlace) (h : DataW.trod enc Try.prog w base spare held n 32 cs = some x) : ∃ r : RingL, cs = r.cells ∧ RingOk w r := by
  obtain ⟨hl, n, hf⟩ := open_struct row_ring h
  rw [cells_ring] at hl
  obtain ⟨c0, c1, c2, c3, c4, rfl⟩ := list5 hl
  obtain ⟨y0, h0⟩ := hf 0 _ rfl
  obtain ⟨y1, h1⟩ := hf 1 _ rfl
  obtain ⟨y2, h2⟩ := hf 2 _ rfl
  obtain ⟨y3, h3⟩ := hf 3 _ rfl
  simp only [cells_epoch, cells_int64, cells_sints, cells_sentries] at h0 h1 h2 h3
  obtain ⟨c, f, e0⟩ := open_epoch _ _ _ h0
  obtain ⟨hop, e1, _, _⟩ := DataW.trod_int Try.underlying2 h1
  simp at e0 e1
  obtain ⟨rfl, rfl⟩ := e0
  subst e1
  obtain ⟨mA, ms, mC, e2, hs, hml⟩ : ∃ (A : Option Addr) (ms : List Int) (C : Nat), c3 = .slice A ms.length C ∧ Sl w A (ms.map (Value.int .i64)) ∧ ms.length ≤ maxLen := by
    rcases open_ints Try.underlying29 Try.underlying3 (by kernel_rfl) h2 with ⟨hcs, _⟩ | ⟨a, l, C, zs, hcs, _, hl, hm, hz, _, hcell, _⟩
    · simp at hcs
      exact ⟨none, [], 0, hcs, .inl rfl, Nat.zero_le _⟩
    · simp at hcs
      have hlz : l ≤ zs.length := by rw [hz]; split <;> omega
      refine ⟨some a, zs.take l, C, by rw [hcs, List.length_take, Nat.min_eq_left hlz], sl_of_cells hlz hcell, ?_⟩
      rw [List.length_take]
      omega
  obtain ⟨eA, eN, eC, e3, hel⟩ : ∃ (A : Option Addr) (N C : Nat), c4 = .slice A N C ∧ N ≤ maxLen := by
    rcases open_slice Try.underlying30 h3 with ⟨hcs, _⟩ | ⟨a, l, C, m, n, D, Pl, hcs, _, hl, hm, _⟩
    · simp at hcs
      exact ⟨none, 0, 0, hcs, Nat.zero_le _⟩
    · simp at hcs
      exact ⟨some a, l, C, hcs, by omega⟩
  exact ⟨⟨c, f, hop, mA, ms, mC, eA, eN, eC⟩, by rw [e2, e3], hs, hml, hel⟩
end
end Go.Proofs.Ytioaapgpcpepmaa
