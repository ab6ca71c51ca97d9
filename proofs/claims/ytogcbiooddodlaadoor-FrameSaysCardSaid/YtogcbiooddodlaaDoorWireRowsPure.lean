/- WireRows: numbers and a text, one behind the other, cut off. No program in sight but a row that grows. -/
import Derived.Test.YtogcbiooddodlaaDoorWireTextS
import Derived.Test.YtogcbiooddodlaaDoorWireTwinsWalk
namespace Go.Proofs.YtogcbiooddodlaaDoor
open Go.RowKit
set_option linter.unusedSimpArgs false

def allB (xs : List Int) (s : ByteArray) : List Int := cat xs ++ formT s
/-- The place behind so many. -/
def place (xs : List Int) (s : ByteArray) (i : Nat) : Nat := if i ≤ xs.length then (cat (xs.take i)).length else (allB xs s).length
theorem allB_b (xs : List Int) (s : ByteArray) : IsB (allB xs s) := isb_append (cat_b xs) (formT_b s)
theorem allB_drop {xs : List Int} {s : ByteArray} {i : Nat} (h : i < xs.length) : (allB xs s).drop (place xs s i) = form (zz xs[i]) ++ (cat (xs.drop (i + 1)) ++ formT s) := by
  rw [place, if_pos (by omega), allB, List.drop_append_of_le_length (Nat.le_of_lt (cat_left h)), cat_drop h, List.append_assoc]
theorem allB_text (xs : List Int) (s : ByteArray) : (allB xs s).drop (place xs s xs.length) = formT s ++ [] := by
  rw [place, if_pos (Nat.le_refl _), List.take_length, allB, List.drop_left, List.append_nil]
theorem place_succ {xs : List Int} {s : ByteArray} {i : Nat} (h : i < xs.length) : place xs s (i + 1) = place xs s i + (form (zz xs[i])).length := by
  rw [place, place, if_pos (by omega), if_pos (by omega), cat_succ h, List.length_append]
theorem place_last (xs : List Int) (s : ByteArray) : place xs s (xs.length + 1) = place xs s xs.length + (formT s).length := by
  rw [place, place, if_neg (by omega), if_pos (Nat.le_refl _), List.take_length, allB, List.length_append]
theorem place_zero (xs : List Int) (s : ByteArray) : place xs s 0 = 0 := by simp [place, cat]
theorem place_end (xs : List Int) (s : ByteArray) : place xs s (xs.length + 1) = (allB xs s).length := by rw [place, if_neg (by omega)]
theorem place_le (xs : List Int) (s : ByteArray) (i : Nat) : place xs s i ≤ (allB xs s).length := by
  unfold place
  split
  · rw [allB, List.length_append]
    have e : cat xs = cat (xs.take i) ++ cat (xs.drop i) := by rw [cat, cat, cat, ← List.flatMap_append, List.take_append_drop]
    rw [e, List.length_append]
    omega
  · exact Nat.le_refl _
theorem take_drop_form {bs F rest : List Int} {p k : Nat} (h : bs.drop p = F ++ rest) (hf : p + F.length ≤ k) : (bs.take k).drop p = F ++ rest.take (k - p - F.length) := by
  rw [List.drop_take, h, List.take_append, List.take_of_length_le (by omega)]
theorem take_drop_cut {bs F rest : List Int} {p k : Nat} (h : bs.drop p = F ++ rest) (hf : k < p + F.length) : (bs.take k).drop p = F.take (k - p) := by
  rw [List.drop_take, h, List.take_append_of_le_length (by omega)]
/-- A number, of bytes that are cut off. -/
theorem row_fits {xs : List Int} {s : ByteArray} {i k : Nat} (h : i < xs.length) (hin : ∀ n ∈ xs, inI n) (hf : place xs s (i + 1) ≤ k) :
    numR ((allB xs s).take k) (-9223372036854775808) 9223372036854775807 (place xs s i) none = (xs[i], place xs s (i + 1), none) := by
  have hn := hin _ (List.getElem_mem h)
  rw [place_succ h] at hf ⊢
  rw [numR, take_drop_form (allB_drop h) hf, rd_form hn, numAt, if_pos (show -9223372036854775808 ≤ xs[i] ∧ xs[i] ≤ 9223372036854775807 from hn)]
theorem row_cut {xs : List Int} {s : ByteArray} {i k : Nat} (h : i < xs.length) (hin : ∀ n ∈ xs, inI n) (hp : place xs s i ≤ k) (hf : k < place xs s (i + 1)) :
    numR ((allB xs s).take k) (-9223372036854775808) 9223372036854775807 (place xs s i) none = (0, place xs s i, some (101, place xs s i)) := by
  have hn := hin _ (List.getElem_mem h)
  rw [place_succ h] at hf
  rw [numR, take_drop_cut (allB_drop h) hf, rd_cut hn (by omega)]
  rfl
theorem text_fits {xs : List Int} {s : ByteArray} {k : Nat} (hs : s.size ≤ 60) (hf : (allB xs s).length ≤ k) : textR ((allB xs s).take k) 60 (place xs s xs.length) none = (s, place xs s (xs.length + 1), none) := by
  rw [List.take_of_length_le hf, text_read (allB_text xs s) (by omega) (by omega), place_last]
theorem text_cut {xs : List Int} {s : ByteArray} {k : Nat} (hs : s.size ≤ 60) (hp : place xs s xs.length ≤ k) (hf : k < (allB xs s).length) :
    textR ((allB xs s).take k) 60 (place xs s xs.length) none = (ByteArray.empty, place xs s xs.length, some (101, place xs s xs.length)) := by
  have hd := allB_text xs s
  rw [formT, List.append_assoc] at hd
  have he := place_end xs s
  rw [place_last, formT_len] at he
  have hsz : inI (s.size : Int) := inI_size (by omega)
  by_cases hc : place xs s xs.length + (form (zz s.size)).length ≤ k
  · have hz : numAt 0 60 (place xs s xs.length) (.num s.size (form (zz s.size)).length) = ((s.size : Int), place xs s xs.length + (form (zz s.size)).length, none) := if_pos ⟨by omega, by omega⟩
    rw [textR, numR, take_drop_form hd hc, rd_form hsz, hz, textAt, if_pos (by rw [List.length_take]; omega)]
  · rw [textR, numR, take_drop_cut hd (by omega), rd_cut hsz (by omega)]
    rfl

/-- One number more, in a row of its own. -/
theorem rowInts15 : RowT Tryd.prog 46 3 (.int .i64 0) 1 8 := ⟨Tryd.underlying46, by kernel_rfl, rfl, by decide⟩
theorem wpList_append_int {ops : Array Oper} {rest : List Oper} {o : Oper} {a : Act} {Q : Exit → Act → World → Prop} {base : Nat} {w w0 : World} {v : Value} {xs : List Int} (hgd : o.guard = none) (s x : Operand)
    (ho : o.op = .call { callee := .builtin .append, args := #[s, x], argTypes := #[46, 46] }) (hs : a.eval s = v) (hown : w0.ownsRow base 3 1 v xs.length (xs.map (Value.int .i64)))
    (y : Int) (B : Nat) (hB : w0.heap.size = B) (hx : a.eval x = .slice (some ⟨B, 0, none⟩) 1 1) (hw : w = w0.alloc (.cells #[.int .i64 y] 3)) (hl : xs.length ≤ 2000000) (hbase : base ≤ w0.heap.size)
    (h : ∀ v' w', w'.ownsRow base 3 1 v' (xs ++ [y]).length ((xs ++ [y]).map (Value.int .i64)) → Eff (fun k => v.ownBlock = some k) w0 w' → wpList Tryd.prog ops Q rest (a.put o.dst v') w') : wpList Tryd.prog ops Q (o :: rest) a w := by
  subst hw hB
  obtain ⟨ti, hi, hz, hsz, hby⟩ := info_parts rowInts15.info
  refine wpList_append_own _ hgd s x 46 ho base 3 ti (.int .i64 0) 1 8 Tryd.underlying46 hi hz hsz hby rfl (by decide) v xs.length _ hs (hown.alloc _) ⟨w0.heap.size, 0, none⟩ 1 1 [Value.int .i64 y] hx rfl ?_ (ints_oneCell .i64 [y]) (by unfold maxLen; omega) (by omega) (Nat.le_trans hbase (by simp)) ?_
  · intro j u hu
    rw [add_at, Nat.zero_add, (Blk.new w0 [Value.int .i64 y] 3).cell, hu]
  · intro v' w' h1 hg _
    exact h v' w' (by simpa using h1) (((Eff.refl _ w0).alloc _).grown hg (fun k hk _ => hk))
end Go.Proofs.YtogcbiooddodlaaDoor
