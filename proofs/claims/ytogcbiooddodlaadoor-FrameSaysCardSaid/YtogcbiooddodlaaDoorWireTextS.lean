/- The document's PutText; a text that was laid is read. -/
import Derived.Test.YtogcbiooddodlaaDoorWireTextR
import Derived.Test.YtogcbiooddodlaaDoorWireRangesWalk
namespace Go.Proofs.YtogcbiooddodlaaDoor
open Go.RowKit
set_option linter.unusedSimpArgs false

set_option maxRecDepth 100000 in
set_option maxHeartbeats 1600000 in
theorem refPutText_any (A : Option Addr) (c : Nat) (xs : List Int) (s : ByteArray) (w : World) (hs : Sl w A (xs.map (Value.int .u8))) (hl : xs.length ≤ 1000) (hsl : s.size ≤ 1000000) :
    Calls Tryd.prog 28 #[.slice A xs.length c, .string s] w (GivesRow w w.heap.size (xs ++ formT s)) := by
  have hn : inI (s.size : Int) := ⟨by omega, by omega⟩
  have hp := form_len_pos (zz s.size)
  have h10 := form_len10 (zz_lt hn)
  have HP := hid (refPut_any (s.size : Int) hn A c xs w hs (by omega))
  go_enter Tryd.func28, Tryd.ntmps28
  go_wp2_with fail
  refine HP.out.mono ?_
  rintro e w2 ⟨v2, rfl, hown2, hb2⟩
  have HO := hid (And.intro hown2 (And.intro (by rw [List.length_append]; omega : 0 < (xs ++ form (zz s.size)).length) (And.intro (by rw [List.length_append]; omega : (xs ++ form (zz s.size)).length + s.size ≤ 2000000) hb2.size)))
  clear hown2 HP
  go_wp2_with (
    at_builtin
    refine wpList_append_str rfl _ _ rfl rfl HO.out.1 rfl HO.out.2.1 HO.out.2.2.1 HO.out.2.2.2 ?_
    intro v3 w3 hown3 hb3
    rw [List.append_assoc] at hown3
    obtain ⟨A3, c3, rfl, _, _, _⟩ := Sl.row hown3)
  go_ret
  exact ⟨.slice A3 (xs ++ formT s).length c3, by simp [formT], hown3, hb2.trans hb3⟩

theorem strOf_strB (s : ByteArray) : strOfNums (strB s) = s := by
  obtain ⟨⟨l⟩⟩ := s
  simp only [strOfNums, strB, List.map_map]
  congr 2
  conv => rhs; rw [← List.map_id l]
  refine List.map_congr_left fun b _ => ?_
  simp
theorem formT_len (s : ByteArray) : (formT s).length = (form (zz s.size)).length + s.size := by rw [formT, List.length_append, strB_len]
theorem formT_b (s : ByteArray) : IsB (formT s) := isb_append (form_b _) (strB_b s)
theorem inI_size {s : ByteArray} (h : s.size ≤ 1000000) : inI (s.size : Int) := ⟨by omega, by omega⟩
theorem num_text {s : ByteArray} {bs rest : List Int} {p : Nat} {most : Int} (h : bs.drop p = formT s ++ rest) (hs : s.size ≤ 1000000) : numR bs 0 most p none = numAt 0 most p (.num s.size (form (zz s.size)).length) := by
  rw [numR, h, formT, List.append_assoc, rd_form (inI_size hs)]
theorem text_read {s : ByteArray} {bs rest : List Int} {p : Nat} {most : Int} (h : bs.drop p = formT s ++ rest) (hs : s.size ≤ 1000000) (hm : (s.size : Int) ≤ most) : textR bs most p none = (s, p + (formT s).length, none) := by
  have hz : numAt 0 most p (.num s.size (form (zz s.size)).length) = ((s.size : Int), p + (form (zz s.size)).length, none) := if_pos ⟨by omega, hm⟩
  have hl : bs.length - p = (formT s).length + rest.length := by rw [← List.length_drop, h, List.length_append]
  rw [formT_len] at hl
  have hp := form_len_pos (zz s.size)
  have hd : (bs.drop (p + (form (zz s.size)).length)).take s.size = strB s := by
    rw [← List.drop_drop, h, formT, List.append_assoc, List.drop_left, ← strB_len s, List.take_left]
  rw [textR, num_text h hs, hz, textAt, if_neg (by omega), formT_len, Int.toNat_natCast, hd, strOf_strB, Nat.add_assoc]
theorem text_long {s : ByteArray} {bs rest : List Int} {p : Nat} {most : Int} (h : bs.drop p = formT s ++ rest) (hs : s.size ≤ 1000000) (hm : most < (s.size : Int)) : textR bs most p none = (ByteArray.empty, p, some (103, p)) := by
  have hz : numAt 0 most p (.num s.size (form (zz s.size)).length) = (0, p, some (103, p)) := if_neg (fun h => by omega)
  rw [textR, num_text h hs, hz, textAt]
end Go.Proofs.YtogcbiooddodlaaDoor
