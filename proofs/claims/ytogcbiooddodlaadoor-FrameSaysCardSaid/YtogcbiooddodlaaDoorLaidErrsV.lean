/- Error variables out of a row's condition: the four that Valid hands on; the six that Read hands on. -/
import Derived.Test.YtogcbiooddodlaaDoorLaidErrs3
import Derived.Test.YtogcbiooddodlaaDoorFrameTok
namespace Go.Proofs.YtogcbiooddodlaaDoor
open Go.RowKit

def namesV : List (String × List UInt8) := [("paternoster/api.ErrRange", [97, 32, 110, 117, 109, 98, 101, 114, 32, 111, 117, 116, 32, 111, 102, 32, 105, 116, 115, 32, 114, 97, 110, 103, 101]),
  ("paternoster/api.ErrMany", [116, 111, 111, 32, 109, 97, 110, 121]), ("paternoster/api.ErrKind", [110, 111, 116, 32, 111, 102, 32, 116, 104, 97, 116, 32, 107, 105, 110, 100]), ("paternoster/api.ErrTwice", [116, 104, 101, 114, 101, 32, 105, 115, 32, 111, 110, 101])]
def namesF : List (String × List UInt8) := [("paternoster/api.ErrEnd", [105, 116, 32, 101, 110, 100, 115, 32, 116, 111, 111, 32, 101, 97, 114, 108, 121]),
  ("paternoster/api.ErrShape", [110, 111, 116, 32, 97, 115, 32, 105, 116, 32, 104, 97, 115, 32, 116, 111, 32, 98, 101])] ++ namesV
theorem namesV_sub : (namesV.all fun x => names13.any fun y => decide (x.1 = y.1)) = true := by kernel_rfl
theorem namesF_sub : (namesF.all fun x => names13.any fun y => decide (x.1 = y.1)) = true := by kernel_rfl
theorem names_of_sub {l : List (String × List UInt8)} (hs : (l.all fun x => names13.any fun y => decide (x.1 = y.1)) = true) : ∀ x ∈ l, Tryd.prog.globalNamed x.1 = some (gn x.1) ∧ (Tryd.prog.globals[gn x.1]?).map (·.type) = some 32 := by
  intro x hx
  have h := List.all_eq_true.1 hs x hx
  simp only [List.any_eq_true, decide_eq_true_eq] at h
  obtain ⟨y, hy, e⟩ := h
  rw [e]
  exact names_ok y hy
theorem errsV_of_laid {W : World} (h : laidMet Tryd.prog (namesV.map laidOne) W) : ∃ ad, ErrsV ad W := by
  obtain ⟨ads, hl, hnd, hat⟩ := sentinels gn namesV W (names_of_sub namesV_sub) h
  have hl4 : ads.length = 4 := hl
  obtain ⟨a0, a1, a2, a3, rfl⟩ : ∃ a0 a1 a2 a3, ads = [a0, a1, a2, a3] := by
    match ads, hl4 with
    | [a0, a1, a2, a3], _ => exact ⟨a0, a1, a2, a3, rfl⟩
  exact ⟨fun k => if k = 103 then a0 else if k = 104 then a1 else if k = 107 then a2 else a3, (hat 0 _ _ rfl rfl).1, (hat 1 _ _ rfl rfl).1, (hat 2 _ _ rfl rfl).1, (hat 3 _ _ rfl rfl).1⟩
/-- What Read hands on. -/
structure ErrsF (ad : Int → Addr) (w : World) : Prop where
  three : Errs3 ad w
  valid : ErrsV ad w
theorem Errs.read {ad : Int → Addr} {w : World} (h : Errs ad w) : ErrsF ad w := ⟨h.three, h.valid⟩
theorem ErrsF.below {ad : Int → Addr} {w w' : World} (h : ErrsF ad w) (hb : Below w.heap.size w w') : ErrsF ad w' := ⟨h.three.below hb, h.valid.below hb⟩
theorem errsF_of_laid {W : World} (h : laidMet Tryd.prog (namesF.map laidOne) W) : ∃ ad, ErrsF ad W := by
  obtain ⟨ads, hl, hnd, hat⟩ := sentinels gn namesF W (names_of_sub namesF_sub) h
  have hl6 : ads.length = 6 := hl
  obtain ⟨a0, a1, a2, a3, a4, a5, rfl⟩ : ∃ a0 a1 a2 a3 a4 a5, ads = [a0, a1, a2, a3, a4, a5] := by
    match ads, hl6 with
    | [a0, a1, a2, a3, a4, a5], _ => exact ⟨a0, a1, a2, a3, a4, a5, rfl⟩
  exact ⟨fun k => if k = 101 then a0 else if k = 102 then a1 else if k = 103 then a2 else if k = 104 then a3 else if k = 107 then a4 else a5, ⟨(hat 0 _ _ rfl rfl).1, (hat 1 _ _ rfl rfl).1, (hat 2 _ _ rfl rfl).1⟩, ⟨(hat 2 _ _ rfl rfl).1, (hat 3 _ _ rfl rfl).1, (hat 4 _ _ rfl rfl).1, (hat 5 _ _ rfl rfl).1⟩⟩
theorem door_metV (os : Os) (args : Array Value) : laidMetH Tryd.prog (namesV.map laidOne) ((World.doorLaid Tryd.prog 256 os).forCall (fun _ _ => 0) ⟨#[], args, []⟩).memory :=
  laidMetH_of_parts3 (fuel := 8) (laidMet_of_run' 8 (by kernel_rfl) (by kernel_rfl)) (by kernel_rfl) (by kernel_rfl)
theorem door_metF (os : Os) (args : Array Value) : laidMetH Tryd.prog (namesF.map laidOne) ((World.doorLaid Tryd.prog 256 os).forCall (fun _ _ => 0) ⟨#[], args, []⟩).memory :=
  laidMetH_of_parts3 (fuel := 8) (laidMet_of_run' 8 (by kernel_rfl) (by kernel_rfl)) (by kernel_rfl) (by kernel_rfl)
theorem laid_plainV {W : World} (h : laidMetH Tryd.prog (namesV.map laidOne) W) : laidMet Tryd.prog (namesV.map laidOne) W := by
  rw [MakeChecks.laidMetH_plain _ _ _ (by kernel_rfl)] at h
  exact h
theorem laid_plainF {W : World} (h : laidMetH Tryd.prog (namesF.map laidOne) W) : laidMet Tryd.prog (namesF.map laidOne) W := by
  rw [MakeChecks.laidMetH_plain _ _ _ (by kernel_rfl)] at h
  exact h
end Go.Proofs.YtogcbiooddodlaaDoor
