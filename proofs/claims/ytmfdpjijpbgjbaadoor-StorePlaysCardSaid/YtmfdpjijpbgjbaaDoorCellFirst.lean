/- The chapter's examples hold: what 'first' of chapter 2 hands back. -/
import Derived.Test.YtmfdpjijpbgjbaaDoorCellMake2
import Derived.Test.YtmfdpjijpbgjbaaDoorSee2
namespace Go.Proofs.YtmfdpjijpbgjbaaDoor
open Go.RowKit
set_option linter.unusedSimpArgs false

def SaysTrue (w : World) (e : Ending) (w' : World) : Prop := e = .returned (.bool true) ∧ Below w.heap.size w w'

/-- The cell's own blocks alone were turned, and they are new. -/
theorem at2_below {b g : Nat} {w0 w w' : World} (hb : Below w0.heap.size w0 w) (he : Eff (At2 b g) w w') (h1 : w0.heap.size ≤ b) (h2 : w0.heap.size ≤ g) : Below w0.heap.size w0 w' :=
  he.below hb hb.size (fun i hi h => by rcases h with rfl | rfl <;> omega)
theorem bare_105 : Bare 105 := .inr (IsErr.mk (by omega))
theorem bare_106 : Bare 106 := .inr (IsErr.mk (by omega))
theorem bare_103 : Bare 103 := .inr (IsErr.mk (by omega))
theorem putE_bare (c : Cl) (i : Int) : Bare (c.putE i) := by
  unfold Cl.putE
  split
  · exact bare_105
  · split
    · exact .inl rfl
    · exact bare_106
theorem getE_bare (c : Cl) (i : Int) : Bare (c.getE i) := by
  unfold Cl.getE
  split
  · exact bare_105
  · split
    · exact .inl rfl
    · exact bare_106

set_option maxHeartbeats 800000 in
theorem first_any {ad : Int → Addr} (w : World) (hE : Errs ad w) : Calls Tryd.prog 12 #[] w (SaysTrue w) := by
  go_enter Tryd.func12, Tryd.ntmps12
  go_wp2_with fail
  refine (new_yes 4 w (by omega) (by omega)).mono ?_
  rintro e w1 ⟨b, g, rfl, hc1, hbB, hgB, hB1⟩
  go_wp2_with fail
  refine (arm_any 1 _ hc1).mono ?_
  rintro e w2 ⟨rfl, hc2, he2⟩
  have hB2 := at2_below hB1 he2 hbB hgB
  have ok2 := Cl.arm_ok (Cl.new_ok 4) 1 (by omega)
  clear hc1 he2 hB1
  go_wp2_with fail
  have hp := put_any 0 1 _ (hE.below hB2).four hc2 ok2 (by decide)
  rw [show ((Cl.new 4).arm 1).putE 0 = 105 from by decide] at hp
  refine hp.mono ?_
  rintro e w3 ⟨rfl, hc3, he3⟩
  have hB3 := at2_below hB2 he3 hbB hgB
  clear hc2 he3 hB2 hp
  go_wp2_with fail
  refine (is_any 105 (hE.below hB3) bare_105).mono ?_
  rintro e w4 ⟨rfl, hb4⟩
  have hc4 := hc3.below hb4
  have hB4 := hB3.trans (hb4.mono hB3.size)
  clear hc3 hb4 hB3
  go_wp2_with fail
  refine (down_any _ hc4).mono ?_
  rintro e w' ⟨rfl, rfl⟩
  rw [show (((Cl.new 4).arm 1).put 0 1).down = true from by decide]
  go_wp2_with fail
  go_ret
  exact ⟨rfl, hB4⟩
end Go.Proofs.YtmfdpjijpbgjbaaDoor
