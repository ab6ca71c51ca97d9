/- The chapter's examples hold: what 'first' of chapter 7 hands back. -/
import Derived.Test.YtlihiiaabfkhaaaLiveWalks4
import Derived.Test.YtlihiiaabfkhaaaRefWalks
namespace Go.Proofs.Ytlihiiaabfkhaaa
open Go.RowKit

/-- A row that a call handed back reads as a slice. -/
theorem row_open {w : World} {B : Nat} {E : TypeId} {v : Value} {xs : List Int} (h : w.ownsRow B E 1 v xs.length (xs.map (Value.int .i64))) :
    ∃ A c, v = .slice A xs.length c ∧ Sl w A (xs.map (Value.int .i64)) ∧ (∀ a, A = some a → B ≤ a.block ∧ a.block < w.heap.size) := by
  obtain ⟨A, c, hv, _, _, hs⟩ := Sl.row h
  exact ⟨A, c, hv, hs, fun a ha => h.lt _ (by rw [hv, ha]; rfl)⟩

/-- The call handed back 'true'; nothing that was there has turned. -/
def SaysTrue (w : World) (e : Ending) (w' : World) : Prop := e = .returned (.bool true) ∧ Below w.heap.size w w'

set_option maxHeartbeats 800000 in
theorem first_any (w : World) : Calls Try.prog 7 #[] w (SaysTrue w) := by
  have hz := zero_table
  go_enter Try.func7, Try.ntmps7
  go_wp2_with fail
  obtain ⟨w0, hw0⟩ : ∃ w0, w0 = w.alloc (.cells Tab.zero.cells.toArray 28) := ⟨_, rfl⟩
  have hb0 : Blk w0 w.heap.size Tab.zero.cells 28 := by rw [hw0]; exact Blk.new w _ _
  have hB0 : Below w.heap.size w w0 := by rw [hw0]; exact (Below.refl _ _).alloc (Nat.le_refl _) _
  rw [← hw0]
  clear hw0 hz
  refine (hear_yes Tab.ok_zero _ _ _ _ _ hb0 rfl).mono ?_
  rintro e w1 ⟨rfl, hb1, he1⟩
  have hB1 := he1.below hB0 hB0.size (fun i hi => by omega)
  have ok1 := Tab.hear_ok Tab.ok_zero 2 1 0 false
  clear hb0 hB0 he1
  go_wp2_with fail
  refine (tick_any ok1 _ hb1).mono ?_
  rintro e w2 ⟨rfl, hb2, he2⟩
  have hB2 := he2.below hB1 hB1.size (fun i hi => by omega)
  have ok2 := Tab.tick_ok ok1
  clear hb1 hB1 he2 ok1
  go_wp2_with fail
  refine (tick_any ok2 _ hb2).mono ?_
  rintro e w3 ⟨rfl, hb3, he3⟩
  have hB3 := he3.below hB2 hB2.size (fun i hi => by omega)
  have ok3 := Tab.tick_ok ok2
  clear hb2 hB2 he3 ok2
  go_wp2_with fail
  refine (tick_any ok3 _ hb3).mono ?_
  rintro e w4 ⟨rfl, hb4, he4⟩
  have hB4 := he4.below hB3 hB3.size (fun i hi => by omega)
  have ok4 := Tab.tick_ok ok3
  clear hb3 hB3 he4 ok3
  go_wp2_with fail
  have ha4 : (Tab.zero.hear 2 1 0 false).tick.tick.tick.alive = [2] := by decide
  have hall := alive_any ok4 _ hb4
  rw [ha4] at hall
  refine hall.mono ?_
  rintro e w5 ⟨v, rfl, hrow, hbl5⟩
  obtain ⟨A, c, rfl, hs, hlt⟩ := row_open hrow
  obtain ⟨g, o, rfl, hg, hcell⟩ := hs.at (by simp)
  have hg2 := hlt _ rfl
  simp only at hg2
  have c0 : w5.cell? ⟨g, o, none⟩ = some (.int .i64 2) := hcell 0 (by simp)
  have hb5 := (Eff.of_below (S := fun _ => False) hbl5).blk hb4 (fun h => h)
  have hB5 := hB4.trans (hbl5.mono hB4.size)
  have hlt4 := hb4.lt
  clear hall hrow hs hcell hlt hb4 hbl5 hB4 ha4
  go_wp2_with fail
  refine (tick_any ok4 _ hb5).mono ?_
  rintro e w6 ⟨rfl, hb6, he6⟩
  have hB6 := he6.below hB5 hB5.size (fun i hi => by omega)
  have ok6 := Tab.tick_ok ok4
  have c6 : w6.cell? ⟨g, o, none⟩ = some (.int .i64 2) := (he6.cell hg2.2 (by omega)).trans c0
  clear hb5 hB5 he6 ok4 c0
  go_wp2_with fail
  have ha6 : (Tab.zero.hear 2 1 0 false).tick.tick.tick.tick.alive = [] := by decide
  have hall := alive_any ok6 _ hb6
  rw [ha6] at hall
  refine hall.mono ?_
  rintro e w7 ⟨v, rfl, hrow, hbl7⟩
  obtain ⟨A, c, rfl, hs, hlt⟩ := row_open hrow
  have hB7 := hB6.trans (hbl7.mono hB6.size)
  clear hall hrow hs hlt hbl7 hB6 ha6 hb6 c6
  go_wp2_with fail
  go_ret
  exact ⟨rfl, hB7⟩
end Go.Proofs.Ytlihiiaabfkhaaa
