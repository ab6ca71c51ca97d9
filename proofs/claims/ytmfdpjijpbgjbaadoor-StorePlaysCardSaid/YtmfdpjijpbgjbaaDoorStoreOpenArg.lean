/- Records as an argument: a slice of structs, opened to plain data; StorePlays, all its ways. -/
import Derived.Test.YtmfdpjijpbgjbaaDoorOpen
import Derived.Test.YtmfdpjijpbgjbaaDoorStorePlaysWalk
import Derived.OpenShut
namespace Go.Proofs.YtmfdpjijpbgjbaaDoor
open Go.RowKit Go.Deep Go.ChangeShapes Go.WideShapes

theorem row_rec : fieldRow Tryd.prog 59 = some [(2, 0), (2, 1)] := by kernel_rfl
theorem cells_rec : Tryd.prog.cellsOf 59 = 2 := by kernel_rfl
theorem cells_i64 : Tryd.prog.cellsOf 2 = 1 := by kernel_rfl
section
variable {H : Type} {enc : TypeId × Value → H} {w : World} {base : Nat} {spare : Nat → Bool} {held : Bool}
theorem open_rec (n : Nat) (cs : List Value) (x : DataW H × List MemPlace) (h : DataW.trod enc Tryd.prog w base spare held n 59 cs = some x) : ∃ d : Int × Int, cs = recC d ∧ True := by
  obtain ⟨hl, n, hf⟩ := open_struct row_rec h
  rw [cells_rec] at hl
  obtain ⟨c0, c1, rfl⟩ : ∃ c0 c1, cs = [c0, c1] := by
    cases cs with
    | nil => cases hl
    | cons c0 cs =>
      cases cs with
      | nil => cases hl
      | cons c1 cs =>
        cases cs with
        | nil => exact ⟨c0, c1, rfl⟩
        | cons c2 cs => simp at hl
  obtain ⟨y0, h0⟩ := hf 0 _ rfl
  obtain ⟨y1, h1⟩ := hf 1 _ rfl
  simp only [cells_i64] at h0 h1
  obtain ⟨a0, e0, _, _⟩ := DataW.trod_int Tryd.underlying2 h0
  obtain ⟨a1, e1, _, _⟩ := DataW.trod_int Tryd.underlying2 h1
  simp at e0 e1
  exact ⟨(a0, a1), by simp [recC, e0, e1], trivial⟩
end

set_option maxRecDepth 100000 in
set_option maxHeartbeats 1600000 in
theorem storePlays_walk {ad : Int → Addr} (A0 A1 : Option Addr) (c0 c1 : Nat) (l : List (Int × Int)) (raw : List Int) (w : World) (hs0 : Sl w A0 (l.flatMap recC)) (hs1 : Sl w A1 (raw.map (Value.int .u8))) (hb : ∀ x ∈ raw, 0 ≤ x ∧ x ≤ 255) (hE : Errs ad w) :
    Calls Tryd.prog 6 #[.slice A0 l.length c0, .slice A1 raw.length c1] w (SaysTrue w) := by
  by_cases h30 : l.length ≤ 30
  · by_cases h40 : raw.length ≤ 40
    · exact storePlays_main A0 A1 c0 c1 l raw w hs0 hs1 hb hE h30 h40
    · have h30' : ¬ 30 < (l.length : Int) := by omega
      have h40' : 40 < (raw.length : Int) := by omega
      go_enter Tryd.func6, Tryd.ntmps6
      go_wp2_with fail
      refine (first3_any w hE.four).mono ?_
      rintro e w1 ⟨rfl, hB1⟩
      go_wp2_with fail
      go_ret
      exact ⟨rfl, hB1⟩
  · have h30' : 30 < (l.length : Int) := by omega
    go_enter Tryd.func6, Tryd.ntmps6
    go_wp2_with fail
    refine (first3_any w hE.four).mono ?_
    rintro e w1 ⟨rfl, hB1⟩
    go_wp2_with fail
    go_ret
    exact ⟨rfl, hB1⟩
end Go.Proofs.YtmfdpjijpbgjbaaDoor
