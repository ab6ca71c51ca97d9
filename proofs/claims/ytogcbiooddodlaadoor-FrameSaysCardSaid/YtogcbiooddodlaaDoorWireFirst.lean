/- Put, a new reader, as the statements use them. -/
import Derived.Test.YtogcbiooddodlaaDoorWireRead
import Derived.Test.YtogcbiooddodlaaDoorSee3
import Derived.Test.YtogcbiooddodlaaDoorSameBytes
namespace Go.Proofs.YtogcbiooddodlaaDoor
open Go.RowKit
set_option linter.unusedSimpArgs false

def SaysTrue (w : World) (e : Ending) (w' : World) : Prop := e = .returned (.bool true) ∧ Below w.heap.size w w'
set_option maxHeartbeats 800000 in
theorem putW_any (n : Int) (hn : inI n) (A : Option Addr) (c : Nat) (xs : List Int) (w : World) (hs : Sl w A (xs.map (Value.int .u8))) (hl : xs.length ≤ 1000000) :
    Calls Tryd.prog 15 #[.slice A xs.length c, .int .i64 n] w (GivesRow w w.heap.size (xs ++ form (zz n))) := by
  go_enter Tryd.func15, Tryd.ntmps15
  go_wp2_with fail
  refine (clone_bytes A c xs w hs hl).mono ?_
  rintro e w1 ⟨v, rfl, hown, hb1⟩
  obtain ⟨A1, c1, rfl, _, _, _⟩ := Sl.row hown
  have HP := hid (putNum_any n hn _ xs w.heap.size w1 hown hb1.size hl)
  clear hown
  go_wp2_with fail
  refine HP.out.mono ?_
  rintro e w2 ⟨v2, rfl, hown2, hb2⟩
  obtain ⟨A2, c2, rfl, _, _, _⟩ := Sl.row hown2
  have HO := hid hown2
  clear hown2
  go_wp2_with fail
  go_ret
  exact ⟨.slice A2 (xs ++ form (zz n)).length c2, by rw [List.length_append]; rfl, HO.out, hb1.trans hb2⟩

def GivesRdr (w : World) (bs : List Int) (e : Ending) (w' : World) : Prop := ∃ r, e = .returned (.pointer (some ⟨r, 0, none⟩)) ∧ RdrIs w' w.heap.size r bs 0 .nilIface ∧ w.heap.size ≤ r ∧ Below w.heap.size w w'
set_option maxHeartbeats 800000 in
theorem newReader_any (A : Option Addr) (c : Nat) (xs : List Int) (w : World) (hs : Sl w A (xs.map (Value.int .u8))) (hl : xs.length ≤ 1000000) (hb : IsB xs) :
    Calls Tryd.prog 18 #[.slice A xs.length c] w (GivesRdr w xs) := by
  go_enter Tryd.func18, Tryd.ntmps18
  go_wp2_with fail
  refine (clone_bytes A c xs w hs hl).mono ?_
  rintro e w1 ⟨v, rfl, hown, hb1⟩
  obtain ⟨A1, c1, rfl, hc1, _, hs1⟩ := Sl.row hown
  have hlt : ∀ a, A1 = some a → w.heap.size ≤ a.block ∧ a.block < w1.heap.size ∧ xs.length ≤ c1 := fun a ha => have h := hown.lt a.block (by rw [ha]; rfl); ⟨h.1, h.2, hc1⟩
  clear hown
  go_wp2_with fail
  go_ret
  have hb2 : Below w1.heap.size w1 (w1.alloc (.cells #[.slice A1 xs.length c1, .int .i64 0, .nilIface] 83)) := (Below.refl _ _).alloc (Nat.le_refl _) _
  exact ⟨w1.heap.size, rfl, ⟨⟨A1, c1, Blk.new w1 _ _, It2 hs1 hb2, hlt⟩, hb, Nat.zero_le _, hl⟩, hb1.size, hb1.trans (hb2.mono hb1.size)⟩

theorem form_b (z : Nat) : IsB (form z) := by
  induction z using Nat.strongRecOn with
  | ind z ih =>
    by_cases h : z < 128
    · rw [form_small h]; intro b hb; rw [List.mem_singleton] at hb; omega
    · rw [form_big h]; intro b hb
      rcases List.mem_cons.1 hb with rfl | hb
      · omega
      · exact ih _ (by omega) b hb
theorem form_1 : form (zz (-1)) = [1] := by rw [show zz (-1) = 1 from rfl, form_small (by omega)]; rfl
theorem form_128 : form (zz 64) = [128, 1] := by rw [show zz 64 = 128 from rfl, form_big (by omega), form_small (by omega)]; rfl
/-- Bytes that the text itself lays. -/
theorem sl_lit (w : World) (bs : List Int) (E : TypeId) : Sl (w.alloc (.cells (bs.map (Value.int .u8)).toArray E)) (some ⟨w.heap.size, 0, none⟩) (bs.map (Value.int .u8)) :=
  .inr ⟨w.heap.size, 0, rfl, by simp, fun k _ => by rw [Nat.zero_add]; exact (Blk.new w (bs.map (Value.int .u8)) E).cell k⟩
theorem putNil_any (n : Int) (hn : inI n) (w : World) : Calls Tryd.prog 15 #[.slice none 0 0, .int .i64 n] w (GivesRow w w.heap.size (form (zz n))) :=
  putW_any n hn none 0 [] w (.inl rfl) (by simp)

set_option maxRecDepth 100000 in
set_option maxHeartbeats 1600000 in
theorem first_any (w : World) : Calls Tryd.prog 14 #[] w (SaysTrue w) := by
  have hP := putNil_any (-1) ⟨by omega, by omega⟩ w
  rw [form_1] at hP
  go_enter Tryd.func14, Tryd.ntmps14
  go_wp2_with fail
  refine hP.mono ?_
  rintro e w1 ⟨v1, rfl, hown1, hb1⟩
  obtain ⟨A1, c1, rfl, _, _, hs1⟩ := Sl.row hown1
  clear hP hown1
  go_wp2_with fail
  have hb2 : Below w1.heap.size w1 (w1.alloc (.cells #[.int .u8 1] 5)) := (Below.refl _ _).alloc (Nat.le_refl _) _
  have hs2 := It2 hs1 hb2
  have hB2 := hb1.trans (hb2.mono hb1.size)
  have hS := sameBytes_same A1 (some ⟨w1.heap.size, 0, none⟩) c1 1 [1] _ hs2 (sl_lit w1 [1] 5) (by simp)
  clear hs1 hb1
  refine hS.mono ?_
  rintro e w' ⟨rfl, q, rfl⟩
  have hB3 := below_drewN hB2 q
  generalize (w1.alloc (.cells #[.int .u8 1] 5)).drewN q = w3 at *
  have hP := putNil_any 64 ⟨by omega, by omega⟩ w3
  rw [form_128] at hP
  clear hS hs2 hB2 hb2
  go_wp2_with fail
  refine hP.mono ?_
  rintro e w4 ⟨v4, rfl, hown4, hb4⟩
  obtain ⟨A4, c4, rfl, _, _, hs4⟩ := Sl.row hown4
  have hB4 := hB3.trans (hb4.mono hB3.size)
  clear hP hown4 hB3 hb4
  go_wp2_with fail
  have hb5 : Below w4.heap.size w4 (w4.alloc (.cells #[.int .u8 128, .int .u8 1] 5)) := (Below.refl _ _).alloc (Nat.le_refl _) _
  have hs5 := It2 hs4 hb5
  have hB5 := hB4.trans (hb5.mono hB4.size)
  have hS := sameBytes_same A4 (some ⟨w4.heap.size, 0, none⟩) c4 2 [128, 1] _ hs5 (sl_lit w4 [128, 1] 5) (by simp)
  clear hs4 hB4
  refine hS.mono ?_
  rintro e w' ⟨rfl, q, rfl⟩
  have hB6 := below_drewN hB5 q
  clear hS hs5 hb5 hB5
  go_wp2_with fail
  go_ret
  exact ⟨rfl, hB6⟩
end Go.Proofs.YtogcbiooddodlaaDoor
