/- Three error variables out of a row's condition: ErrEnd, ErrShape, ErrRange. -/
import Derived.Test.YtogcbiooddodlaaDoorLaidErrs
namespace Go.Proofs.YtogcbiooddodlaaDoor
open Go.RowKit

def names3 : List (String × List UInt8) := names13.take 3
/-- The three that a reader hands on. -/
structure Errs3 (ad : Int → Addr) (w : World) : Prop where
  end_ : w.cell? ⟨1, 0, none⟩ = some (.iface 136 (.pointer (some (ad 101))))
  shape : w.cell? ⟨3, 0, none⟩ = some (.iface 136 (.pointer (some (ad 102))))
  range : w.cell? ⟨0, 0, none⟩ = some (.iface 136 (.pointer (some (ad 103))))
theorem Errs.three {ad : Int → Addr} {w : World} (h : Errs ad w) : Errs3 ad w :=
  ⟨h.cell (101, 1) (by decide), h.cell (102, 3) (by decide), h.cell (103, 0) (by decide)⟩
theorem Errs3.below {ad : Int → Addr} {w w' : World} (h : Errs3 ad w) (hb : Below w.heap.size w w') : Errs3 ad w' :=
  ⟨(hb.cell (lt_of_cell h.end_)).trans h.end_, (hb.cell (lt_of_cell h.shape)).trans h.shape, (hb.cell (lt_of_cell h.range)).trans h.range⟩
theorem names3_ok : ∀ x ∈ names3, Tryd.prog.globalNamed x.1 = some (gn x.1) ∧ (Tryd.prog.globals[gn x.1]?).map (·.type) = some 32 := fun x hx => names_ok x (List.mem_of_mem_take hx)
theorem errs3_of_laid {W : World} (h : laidMet Tryd.prog (names3.map laidOne) W) : ∃ ad, Errs3 ad W := by
  obtain ⟨ads, hl, hnd, hat⟩ := sentinels gn names3 W names3_ok h
  have hl3 : ads.length = 3 := hl
  obtain ⟨a0, a1, a2, rfl⟩ : ∃ a0 a1 a2, ads = [a0, a1, a2] := by
    match ads, hl3 with
    | [a0, a1, a2], _ => exact ⟨a0, a1, a2, rfl⟩
  exact ⟨fun k => if k = 101 then a0 else if k = 102 then a1 else a2, (hat 0 _ _ rfl rfl).1, (hat 1 _ _ rfl rfl).1, (hat 2 _ _ rfl rfl).1⟩
theorem door_met3 (os : Os) (args : Array Value) : laidMetH Tryd.prog (names3.map laidOne) ((World.doorLaid Tryd.prog 256 os).forCall (fun _ _ => 0) ⟨#[], args, []⟩).memory :=
  laidMetH_of_parts3 (fuel := 8) (laidMet_of_run' 8 (by kernel_rfl) (by kernel_rfl)) (by kernel_rfl) (by kernel_rfl)
theorem laid_plain3 {W : World} (h : laidMetH Tryd.prog (names3.map laidOne) W) : laidMet Tryd.prog (names3.map laidOne) W := by
  rw [MakeChecks.laidMetH_plain _ _ _ (by kernel_rfl)] at h
  exact h
end Go.Proofs.YtogcbiooddodlaaDoor
