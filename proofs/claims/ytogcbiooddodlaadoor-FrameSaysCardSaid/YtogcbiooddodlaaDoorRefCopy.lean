/- The document's copy of bytes. -/
import Derived.Test.YtogcbiooddodlaaDoorCellMake
namespace Go.Proofs.YtogcbiooddodlaaDoor
open Go.RowKit
set_option linter.unusedSimpArgs false

def BytesRel (w : World) (xs : List Int) (v i : Value) (wr : World) : Prop :=
  ∃ k : Nat, k ≤ xs.length ∧ i = .int .i64 k ∧ wr.ownsRow w.heap.size 5 1 v k ((xs.take k).map (Value.int .u8)) ∧ Below w.heap.size w wr
attribute [irreducible] BytesRel
theorem take_one {xs : List Int} {k : Nat} (h : k < xs.length) : (xs.take (k + 1)).map (Value.int .u8) = (xs.take k).map (Value.int .u8) ++ [Value.int .u8 (xs[k])] := by
  rw [List.take_succ_eq_append_getElem h, List.map_append]
  rfl

set_option maxRecDepth 100000 in
set_option maxHeartbeats 4000000 in
theorem refBytes_any (A : Option Addr) (c : Nat) (xs : List Int) (w : World) (hs : Sl w A (xs.map (Value.int .u8))) (hl : xs.length ≤ 1000000) :
    Calls Tryd.prog 17 #[.slice A xs.length c] w (GivesBytes w xs.length xs) := by
  obtain ⟨ti, hi, hz, hsz, hby⟩ := info_parts rowBytes.info
  have HI := hid (And.intro hi (And.intro hz (And.intro hsz hby)))
  have hmm : xs.length ≤ maxLen := by unfold maxLen; omega
  have hb2 : ti.bytes * xs.length ≤ 281474976710656 := by rw [hby]; omega
  have HM := hid (And.intro hmm hb2)
  clear hi hz hsz hby hmm hb2
  go_enter Tryd.func17, Tryd.ntmps17
  go_wp2_with (at_make; refine wpList_make_own _ rfl _ _ 23 rfl w.heap.size 5 ti (.int .u8 0) 1 Tryd.underlying23 HI.out.1 HI.out.2.1 HI.out.2.2.1 .i64 .i64 _ xs.length rfl rfl rfl HM.out.2 HM.out.1 (Nat.le_refl _) ?_; intro w3 hown hg)
  have hb3 : Below w.heap.size w w3 := ⟨hg.os, hg.tape, hg.output, hg.size, fun k hk => hg.block k hk (by simp)⟩
  clear hg
  go_loopw [3, 4] (fun v i wr => BytesRel w xs v i wr) (fun _ i _ => xs.length - (intOf i).toNat)
  case atStart => unfold BytesRel; exact ⟨0, by omega, rfl, hown, hb3⟩
  case round =>
    clear hown hb3
    unfold BytesRel at hrel
    obtain ⟨k, hk, rfl, hown, hB⟩ := hrel
    obtain ⟨A1, k1, rfl, _, _, hs1⟩ := Sl.row hown
    by_cases hlt : k < xs.length
    · obtain ⟨b0, o0, rfl, hbw, hcx⟩ := hs.at (by rw [List.length_map]; omega)
      have c0 : wr.cell? ⟨b0, o0 + k, none⟩ = some (.int .u8 xs[k]) := (hB.cell (p := ⟨b0, o0 + k, none⟩) hbw).trans ((hcx k (by rw [List.length_map]; omega)).trans (by simp))
      obtain ⟨x, hx⟩ : ∃ x, xs[k] = x := ⟨_, rfl⟩
      have ht := take_one hlt
      rw [hx] at c0 ht
      have HT := hid ht
      clear ht
      have HN : Hid (∀ j u, [Value.int .u8 x][j]? = some u → (wr.alloc (.cells #[.int .u8 x] 5)).cell? ((⟨wr.heap.size, 0, none⟩ : Addr).add j) = some u) := by
        intro j u hu
        rw [add_at, Nat.zero_add, (Blk.new wr [Value.int .u8 x] 5).cell, hu]
      have HO := hid (hown.alloc (.cells #[.int .u8 x] 5))
      have h1 : ∀ u ∈ [Value.int .u8 x], u.oneCell' = true := ints_oneCell .u8 [x]
      have H1 := hid h1
      have hm : k + 1 ≤ maxLen := by unfold maxLen; omega
      have hby2 : (k + 1) * 1 ≤ 140737488355328 := by omega
      have HQ := hid (And.intro hm (And.intro hby2 (Nat.le_trans hB.size (by simp : wr.heap.size ≤ (wr.alloc (.cells #[.int .u8 x] 5)).heap.size))))
      clear hown hx hcx h1 hm hby2
      go_wp2_with (at_builtin; refine wpList_append_own _ rfl _ _ 23 rfl w.heap.size 5 ti (.int .u8 0) 1 1 Tryd.underlying23 HI.out.1 HI.out.2.1 HI.out.2.2.1 HI.out.2.2.2 rfl (by decide) _ k _ rfl HO.out ⟨wr.heap.size, 0, none⟩ 1 1 [Value.int .u8 x] rfl rfl HN.out H1.out HQ.out.1 HQ.out.2.1 HQ.out.2.2 ?_; intro v w5 hown5 hg _)
      have hb5 : Below w.heap.size w w5 := (hB.alloc hB.size (.cells #[.int .u8 x] 5)).grown hg HQ.out.2.2 (fun j hj => (HO.out.lt j hj).1)
      have ho5 : w5.ownsRow w.heap.size 5 1 v (k + 1) ((xs.take (k + 1)).map (Value.int .u8)) := by rw [HT.out]; exact hown5
      go_roundw
      case rel => unfold BytesRel; exact ⟨k + 1, by omega, by go_num, ho5, hb5⟩
      case measure => simp [intOf]; omega
    · obtain rfl : xs.length = k := by omega
      rw [List.take_length] at hown
      go_wp2_with fail
      go_ret
      exact ⟨_, rfl, hown, hB⟩

end Go.Proofs.YtogcbiooddodlaaDoor
