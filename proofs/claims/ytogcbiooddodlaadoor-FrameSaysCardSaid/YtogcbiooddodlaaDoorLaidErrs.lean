/- Out of the row's condition: the error variables; and that a start meets it. -/
import Derived.Test.YtogcbiooddodlaaDoorErrs
import Derived.LaidMore
import Derived.Stop.Joined
namespace Go.Proofs.YtogcbiooddodlaaDoor
open Go.RowKit

def names13 : List (String × List UInt8) := [("paternoster/api.ErrEnd", [105, 116, 32, 101, 110, 100, 115, 32, 116, 111, 111, 32, 101, 97, 114, 108, 121]),
  ("paternoster/api.ErrShape", [110, 111, 116, 32, 97, 115, 32, 105, 116, 32, 104, 97, 115, 32, 116, 111, 32, 98, 101]),
  ("paternoster/api.ErrRange", [97, 32, 110, 117, 109, 98, 101, 114, 32, 111, 117, 116, 32, 111, 102, 32, 105, 116, 115, 32, 114, 97, 110, 103, 101]),
  ("paternoster/api.ErrMany", [116, 111, 111, 32, 109, 97, 110, 121]), ("paternoster/api.ErrPower", [116, 104, 101, 32, 112, 111, 119, 101, 114, 32, 105, 115, 32, 103, 111, 110, 101]),
  ("paternoster/api.ErrNone", [116, 104, 101, 114, 101, 32, 105, 115, 32, 110, 111, 110, 101]), ("paternoster/api.ErrKind", [110, 111, 116, 32, 111, 102, 32, 116, 104, 97, 116, 32, 107, 105, 110, 100]),
  ("paternoster/api.ErrOrder", [110, 111, 116, 32, 105, 110, 32, 116, 104, 97, 116, 32, 111, 114, 100, 101, 114]), ("paternoster/api.ErrDoor", [110, 111, 116, 32, 119, 105, 116, 104, 32, 116, 104, 101, 32, 100, 111, 111, 114, 32, 115, 111]),
  ("paternoster/api.ErrFloor", [110, 111, 116, 32, 97, 116, 32, 116, 104, 97, 116, 32, 102, 108, 111, 111, 114]), ("paternoster/api.ErrTwice", [116, 104, 101, 114, 101, 32, 105, 115, 32, 111, 110, 101]),
  ("paternoster/api.ErrWord", [110, 111, 32, 115, 117, 99, 104, 32, 119, 111, 114, 100]), ("paternoster/api.ErrNumber", [110, 111, 116, 32, 97, 32, 110, 117, 109, 98, 101, 114])]
def names4 : List (String × List UInt8) := [("paternoster/api.ErrRange", [97, 32, 110, 117, 109, 98, 101, 114, 32, 111, 117, 116, 32, 111, 102, 32, 105, 116, 115, 32, 114, 97, 110, 103, 101]),
  ("paternoster/api.ErrPower", [116, 104, 101, 32, 112, 111, 119, 101, 114, 32, 105, 115, 32, 103, 111, 110, 101]), ("paternoster/api.ErrNone", [116, 104, 101, 114, 101, 32, 105, 115, 32, 110, 111, 110, 101]),
  ("paternoster/api.ErrOrder", [110, 111, 116, 32, 105, 110, 32, 116, 104, 97, 116, 32, 111, 114, 100, 101, 114])]
def gn (s : String) : Nat := (([("paternoster/api.ErrEnd", 1), ("paternoster/api.ErrShape", 3), ("paternoster/api.ErrRange", 0), ("paternoster/api.ErrMany", 4), ("paternoster/api.ErrPower", 6),
  ("paternoster/api.ErrNone", 7), ("paternoster/api.ErrKind", 2), ("paternoster/api.ErrOrder", 8), ("paternoster/api.ErrDoor", 9), ("paternoster/api.ErrFloor", 10), ("paternoster/api.ErrTwice", 5),
  ("paternoster/api.ErrWord", 11), ("paternoster/api.ErrNumber", 12)] : List (String × Nat)).lookup s).getD 0
theorem names_global : (names13.all fun x => decide (Tryd.prog.globalNamed x.1 = some (gn x.1)) && decide ((Tryd.prog.globals[gn x.1]?).map (·.type) = some 32)) = true := by kernel_rfl
theorem names4_sub : (names4.all fun x => names13.any fun y => decide (x.1 = y.1)) = true := by kernel_rfl
theorem names_ok : ∀ x ∈ names13, Tryd.prog.globalNamed x.1 = some (gn x.1) ∧ (Tryd.prog.globals[gn x.1]?).map (·.type) = some 32 := by
  intro x hx
  have := List.all_eq_true.1 names_global x hx
  simpa [Bool.and_eq_true] using this
theorem names4_ok : ∀ x ∈ names4, Tryd.prog.globalNamed x.1 = some (gn x.1) ∧ (Tryd.prog.globals[gn x.1]?).map (·.type) = some 32 := by
  intro x hx
  have h := List.all_eq_true.1 names4_sub x hx
  simp only [List.any_eq_true, decide_eq_true_eq] at h
  obtain ⟨y, hy, e⟩ := h
  rw [e]
  exact names_ok y hy

theorem nodup_get {l : List Addr} (h : l.Nodup) {i j : Nat} (hi : i < l.length) (hj : j < l.length) (hne : i ≠ j) : l[i] ≠ l[j] := by
  rcases Nat.lt_or_gt_of_ne hne with hlt | hlt
  · exact List.pairwise_iff_getElem.1 h i j hi hj hlt
  · exact fun e => List.pairwise_iff_getElem.1 h j i hj hi hlt e.symm

theorem errs_of_laid {W : World} (h : laidMet Tryd.prog (names13.map laidOne) W) : ∃ ad, Errs ad W := by
  obtain ⟨ads, hl, hnd, hat⟩ := sentinels gn names13 W names_ok h
  have hl13 : ads.length = 13 := hl
  have key : ∀ x ∈ errTab, ∃ i : Nat, (x.1 - 101).toNat = i ∧ i < 13 ∧ ∃ s, names13[i]? = some s ∧ gn s.1 = x.2 := by
    have hb : (errTab.all fun x => decide ((x.1 - 101).toNat < 13) && match names13[(x.1 - 101).toNat]? with | some s => decide (gn s.1 = x.2) | none => false) = true := by kernel_rfl
    intro x hx
    have := List.all_eq_true.1 hb x hx
    rw [Bool.and_eq_true] at this
    refine ⟨_, rfl, by simpa using this.1, ?_⟩
    have h2 := this.2
    split at h2
    · rename_i s hs
      exact ⟨s, hs, by simpa using h2⟩
    · cases h2
  refine ⟨fun k => ads.getD (k - 101).toNat ⟨0, 0, none⟩, fun x hx => ?_, fun x hx => ?_, fun x hx y hy hne => ?_⟩
  · obtain ⟨i, hi, hlt, s, hs, hg⟩ := key x hx
    have ha : ads[i]? = some (ads.getD (x.1 - 101).toNat ⟨0, 0, none⟩) := by
      rw [hi, List.getD_eq_getElem?_getD, List.getElem?_eq_getElem (by omega)]
      rfl
    have := (hat i s _ hs ha).1
    rw [hg] at this
    exact this
  · obtain ⟨i, hi, hlt, s, hs, hg⟩ := key x hx
    have ha : ads[i]? = some (ads.getD (x.1 - 101).toNat ⟨0, 0, none⟩) := by
      rw [hi, List.getD_eq_getElem?_getD, List.getElem?_eq_getElem (by omega)]
      rfl
    exact (hat i s _ hs ha).2
  · obtain ⟨i, hi, hlt, _⟩ := key x hx
    obtain ⟨j, hj, hlt', _⟩ := key y hy
    have h1 : 101 ≤ x.1 ∧ 101 ≤ y.1 := by
      have hb : (errTab.all fun x => decide (101 ≤ x.1)) = true := by kernel_rfl
      exact ⟨by simpa using List.all_eq_true.1 hb x hx, by simpa using List.all_eq_true.1 hb y hy⟩
    rw [hi, hj, List.getD_eq_getElem?_getD, List.getD_eq_getElem?_getD, List.getElem?_eq_getElem (by omega), List.getElem?_eq_getElem (by omega)]
    exact nodup_get hnd (by omega) (by omega) (by omega)

theorem errs4_of_laid {W : World} (h : laidMet Tryd.prog (names4.map laidOne) W) : ∃ ad, Errs4 ad W := by
  obtain ⟨ads, hl, hnd, hat⟩ := sentinels gn names4 W names4_ok h
  have hl4 : ads.length = 4 := hl
  obtain ⟨a0, a1, a2, a3, rfl⟩ : ∃ a0 a1 a2 a3, ads = [a0, a1, a2, a3] := by
    match ads, hl4 with
    | [a0, a1, a2, a3], _ => exact ⟨a0, a1, a2, a3, rfl⟩
  exact ⟨fun k => if k = 103 then a0 else if k = 105 then a1 else if k = 106 then a2 else a3, (hat 0 _ _ rfl rfl).1, (hat 1 _ _ rfl rfl).1, (hat 2 _ _ rfl rfl).1, (hat 3 _ _ rfl rfl).1⟩

/-- The heap that the program's own start leaves meets the condition. -/
theorem door_met13 (os : Os) (args : Array Value) : laidMetH Tryd.prog (names13.map laidOne) ((World.doorLaid Tryd.prog 256 os).forCall (fun _ _ => 0) ⟨#[], args, []⟩).memory :=
  laidMetH_of_parts3 (fuel := 8) (laidMet_of_run' 8 (by kernel_rfl) (by kernel_rfl)) (by kernel_rfl) (by kernel_rfl)
theorem door_met4 (os : Os) (args : Array Value) : laidMetH Tryd.prog (names4.map laidOne) ((World.doorLaid Tryd.prog 256 os).forCall (fun _ _ => 0) ⟨#[], args, []⟩).memory :=
  laidMetH_of_parts3 (fuel := 8) (laidMet_of_run' 8 (by kernel_rfl) (by kernel_rfl)) (by kernel_rfl) (by kernel_rfl)
theorem laid_plain13 {W : World} (h : laidMetH Tryd.prog (names13.map laidOne) W) : laidMet Tryd.prog (names13.map laidOne) W := by
  rw [MakeChecks.laidMetH_plain _ _ _ (by kernel_rfl)] at h
  exact h
theorem laid_plain4 {W : World} (h : laidMetH Tryd.prog (names4.map laidOne) W) : laidMet Tryd.prog (names4.map laidOne) W := by
  rw [MakeChecks.laidMetH_plain _ _ _ (by kernel_rfl)] at h
  exact h
end Go.Proofs.YtogcbiooddodlaaDoor
