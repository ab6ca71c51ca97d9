/- What a memory is told, as an argument: a slice of structs, opened to plain data; and CellPlays, all its ways. -/
import Derived.Test.YtmfdpjijpbgjbaaDoorOpen
import Derived.Test.YtmfdpjijpbgjbaaDoorCellPlaysMain
import Derived.OpenShut
namespace Go.Proofs.YtmfdpjijpbgjbaaDoor
open Go.RowKit Go.Deep Go.ChangeShapes Go.WideShapes

theorem row_do : fieldRow Tryd.prog 45 = some [(3, 0), (3, 1), (5, 2)] := by kernel_rfl
theorem cells_do : Tryd.prog.cellsOf 45 = 3 := by kernel_rfl
theorem cells_int : Tryd.prog.cellsOf 3 = 1 := by kernel_rfl
theorem cells_u8 : Tryd.prog.cellsOf 5 = 1 := by kernel_rfl
section
variable {H : Type} {enc : TypeId × Value → H} {w : World} {base : Nat} {spare : Nat → Bool} {held : Bool}
theorem open_do (n : Nat) (cs : List Value) (x : DataW H × List MemPlace) (h : DataW.trod enc Tryd.prog w base spare held n 45 cs = some x) : ∃ d : PDo, cs = d.cells ∧ d.ok := by
  obtain ⟨hl, n, hf⟩ := open_struct row_do h
  rw [cells_do] at hl
  obtain ⟨c0, c1, c2, rfl⟩ := list3 hl
  obtain ⟨y0, h0⟩ := hf 0 _ rfl
  obtain ⟨y1, h1⟩ := hf 1 _ rfl
  obtain ⟨y2, h2⟩ := hf 2 _ rfl
  simp only [cells_int, cells_u8] at h0 h1 h2
  obtain ⟨a0, e0, _, _⟩ := DataW.trod_int Tryd.underlying3 h0
  obtain ⟨a1, e1, _, w1⟩ := DataW.trod_int Tryd.underlying3 h1
  obtain ⟨a2, e2, _, w2⟩ := DataW.trod_int Tryd.underlying5 h2
  simp at e0 e1 e2
  refine ⟨⟨a0, a1, a2⟩, by simp [PDo.cells, e0, e1, e2], ?_⟩
  have b1 := bounds_i64 w1
  have b2 := bounds_u8 w2
  exact ⟨by simp only; omega, by simp only; omega, by simp only; omega⟩
end

theorem cellPlays_walk {ad : Int → Addr} (a0 : Int) (A : Option Addr) (cp : Nat) (ds : List PDo) (w : World) (hE : Errs ad w) (hx : Sl w A (ds.flatMap PDo.cells)) (hdo : ∀ d ∈ ds, d.ok) (hl : ds.length ≤ 9223372036854775807) :
    Calls Tryd.prog 5 #[.int .i64 a0, .slice A ds.length cp] w (SaysTrue w) := by
  by_cases h1 : a0 < 1 ∨ 4096 < a0
  · exact cellPlays_out a0 A cp _ w hE h1
  · obtain ⟨n, rfl⟩ : ∃ n : Nat, a0 = n := ⟨a0.toNat, by omega⟩
    by_cases h2 : 40 < n ∨ 60 < ds.length
    · exact cellPlays_wide n A cp _ w hE (by omega) (by omega) hl h2
    · exact cellPlays_main n A cp ds w hE hx hdo (by omega) (by omega) (by omega)
end Go.Proofs.YtmfdpjijpbgjbaaDoor
