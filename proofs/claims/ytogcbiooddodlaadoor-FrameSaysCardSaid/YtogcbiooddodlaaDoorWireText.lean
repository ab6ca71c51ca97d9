/- A text's form: PutText; the document's. -/
import Derived.Test.YtogcbiooddodlaaDoorAppendStr
import Derived.Test.YtogcbiooddodlaaDoorRefPut
namespace Go.Proofs.YtogcbiooddodlaaDoor
open Go.RowKit
set_option linter.unusedSimpArgs false

def formT (s : ByteArray) : List Int := form (zz s.size) ++ strB s
set_option maxRecDepth 100000 in
set_option maxHeartbeats 1600000 in
theorem putText_any (A : Option Addr) (c : Nat) (xs : List Int) (s : ByteArray) (w : World) (hs : Sl w A (xs.map (Value.int .u8))) (hl : xs.length ≤ 1000) (hsl : s.size ≤ 1000000) :
    Calls Tryd.prog 26 #[.slice A xs.length c, .string s] w (GivesRow w w.heap.size (xs ++ formT s)) := by
  have hn : inI (s.size : Int) := ⟨by omega, by omega⟩
  have hp := form_len_pos (zz s.size)
  have h10 := form_len10 (zz_lt hn)
  go_enter Tryd.func26, Tryd.ntmps26
  go_wp2_with fail
  refine (clone_bytes A c xs w hs (by omega)).mono ?_
  rintro e w1 ⟨v, rfl, hown, hb1⟩
  obtain ⟨A1, c1, rfl, _, _, _⟩ := Sl.row hown
  have HP := hid (putNum_any (s.size : Int) hn _ xs w.heap.size w1 hown hb1.size (by omega))
  clear hown
  go_wp2_with fail
  refine HP.out.mono ?_
  rintro e w2 ⟨v2, rfl, hown2, hb2⟩
  have HO := hid (And.intro hown2 (And.intro (by rw [List.length_append]; omega : 0 < (xs ++ form (zz s.size)).length) (And.intro (by rw [List.length_append]; omega : (xs ++ form (zz s.size)).length + s.size ≤ 2000000) (Nat.le_trans hb1.size hb2.size))))
  clear hown2 HP
  go_wp2_with (
    at_builtin
    refine wpList_append_str rfl _ _ rfl rfl HO.out.1 rfl HO.out.2.1 HO.out.2.2.1 HO.out.2.2.2 ?_
    intro v3 w3 hown3 hb3
    rw [List.append_assoc] at hown3
    obtain ⟨A3, c3, rfl, _, _, _⟩ := Sl.row hown3)
  go_ret
  exact ⟨.slice A3 (xs ++ formT s).length c3, by simp [formT], hown3, (hb1.trans hb2).trans hb3⟩
end Go.Proofs.YtogcbiooddodlaaDoor
