/- WireLengths: the walk. -/
import Derived.Test.YtogcbiooddodlaaDoorWireTextS
namespace Go.Proofs.YtogcbiooddodlaaDoor
open Go.RowKit
set_option linter.unusedSimpArgs false

/-- A row of bytes as a text. -/
theorem conv_own {w : World} {base : Nat} {b n c : Nat} {xs : List Int} (ho : w.ownsRow base 5 1 (.slice (some ⟨b, 0, none⟩) n c) n (xs.map (Value.int .u8))) :
    (convert 23 9 (.slice (some ⟨b, 0, none⟩) n c)).run Tryd.prog w = .ok (.string (strOfNums xs)) w := by
  have hl : xs.length = n := by simpa using ho.1
  refine run_convert_bytes_arg w 23 5 Tryd.underlying23 Tryd.underlying5 b 0 n c xs hl (fun i hi => ?_) _ Tryd.underlying9
  have h := ho.cells (g := b) rfl i (.int .u8 (xs.getD i 0)) (by simp [List.getD_eq_getElem?_getD, List.getElem?_eq_getElem (show i < xs.length by omega)])
  rwa [add_at] at h
theorem form_zero : form (zz 0) = [0] := by rw [show zz 0 = 0 from rfl, form_small (by omega)]; rfl
theorem isb_zero : IsB [0] := by intro b hb; rw [List.mem_singleton] at hb; omega

set_option maxRecDepth 100000 in
set_option maxHeartbeats 8000000 in
theorem wireLengths_walk {ad : Int → Addr} (a0 a1 : Int) (w : World) (hE : Errs ad w) :
    Calls Tryd.prog 8 #[.int .i64 a0, .int .i64 a1] w (SaysTrue w) := by
  obtain ⟨ti, hi, hz, hsz, hby⟩ := info_parts rowBytes.info
  have HI := hid (And.intro hi (And.intro hz (And.intro hsz hby)))
  clear hi hz hsz
  go_enter Tryd.func8, Tryd.ntmps8
  go_wp2_with fail
  refine (first_any _).mono ?_
  rintro e w1 ⟨rfl, hB1⟩
  go_wp2_with fail
  refine (number_any a0 300 (by omega) (by omega) _).mono ?_
  rintro e w' ⟨rfl, rfl⟩
  obtain ⟨m, hm, hm1⟩ : ∃ m : Nat, a0 % 300 = m ∧ m < 300 := ⟨(a0 % 300).toNat, by have := Int.emod_nonneg a0 (show (300 : Int) ≠ 0 by omega); omega, by have := Int.emod_lt_of_pos a0 (show 0 < (300 : Int) by omega); omega⟩
  rw [hm]
  clear hm
  go_wp2_with fail
  refine (number_any a1 300 (by omega) (by omega) _).mono ?_
  rintro e w' ⟨rfl, rfl⟩
  obtain ⟨k, hk, hk1⟩ : ∃ k : Nat, a1 % 300 = k ∧ k < 300 := ⟨(a1 % 300).toNat, by have := Int.emod_nonneg a1 (show (300 : Int) ≠ 0 by omega); omega, by have := Int.emod_lt_of_pos a1 (show 0 < (300 : Int) by omega); omega⟩
  rw [hk]
  clear hk
  have hmm : m ≤ maxLen := by unfold maxLen; omega
  have hb2 : ti.bytes * m ≤ 281474976710656 := by rw [hby]; omega
  have HM := hid (And.intro hmm hb2)
  clear hmm hb2 hby
  go_wp2_with (at_make; refine wpList_make_full _ rfl _ _ 23 rfl (w1.alloc (.cells #[.int .u8 0] 5)).heap.size 5 ti (.int .u8 0) 1 Tryd.underlying23 HI.out.1 HI.out.2.1 HI.out.2.2.1 .i64 .i64 _ _ m rfl rfl rfl rfl HM.out.2 HM.out.1 (Nat.le_refl _) ?_; intro w3 hown hg)
  have hb2 : Below w1.heap.size w1 (w1.alloc (.cells #[.int .u8 0] 5)) := (Below.refl _ _).alloc (Nat.le_refl _) _
  have hl0 := sl_lit w1 [0] 5
  have hb3 : Below (w1.alloc (.cells #[.int .u8 0] 5)).heap.size (w1.alloc (.cells #[.int .u8 0] 5)) w3 := ⟨hg.os, hg.tape, hg.output, hg.size, fun k hk => hg.block k hk (by simp)⟩
  have hs3 : Sl w3 (some ⟨w1.heap.size, 0, none⟩) ([0].map (Value.int .u8)) := It2 hl0 hb3
  have hB3 := (hB1.trans (hb2.mono hB1.size)).trans (hb3.mono (Nat.le_trans hB1.size hb2.size))
  have hcs : (madeCells (Value.int .u8 0).cells (m * 1)).toList = (List.replicate m 0).map (Value.int .u8) := by
    rw [show (Value.int .u8 0).cells = #[Value.int .u8 0] from rfl, toList_madeCells_one]
    simp
  rw [hcs] at hown
  have hconv := conv_own hown
  rw [show (w1.alloc (.cells #[.int .u8 0] 5)).heap.size = w1.heap.size + 1 from by simp] at hconv
  have hsz : (strOfNums (List.replicate m 0)).size = m := by rw [strOfNums_size, List.length_replicate]
  generalize strOfNums (List.replicate m 0) = s at *
  obtain ⟨X, hX⟩ : ∃ X, [0] ++ formT s = X := ⟨_, rfl⟩
  have hT : (formT s).length ≤ 310 := by rw [formT_len]; have := form_len10 (zz_lt (inI_size (s := s) (by omega))); omega
  have hXl : X.length = 1 + (formT s).length := by rw [← hX, List.length_append]; rfl
  have hXb : IsB X := hX ▸ isb_append isb_zero (formT_b _)
  have hnum : numR X 0 1 0 none = (0, 1, none) := by
    rw [numR, List.drop_zero, ← hX, ← form_zero, rd_form ⟨by omega, by omega⟩, numAt, if_pos ⟨by omega, by omega⟩, form_zero]
    rfl
  have hdr : X.drop 1 = formT s ++ [] := by rw [← hX, List.append_nil]; rfl
  have hP := putText_any (some ⟨w1.heap.size, 0, none⟩) 1 [0] s w3 hs3 (by simp) (by omega)
  rw [hX] at hP
  have HXl := hid hXl
  have hX4 : X.length ≤ 1000 := by omega
  have HN := hid (And.intro hnum hdr)
  have HS := hid hsz
  clear hcs hown hg hb2 hb3 hl0 hs3 hX hB1 HI HM hXl hnum hdr hsz
  go_wp2_with fail
  rw [hconv]
  go_wp2_with fail
  refine hP.mono ?_
  rintro e w4 ⟨v4, rfl, hown4, hb4⟩
  obtain ⟨A4, c4, rfl, _, _, hs4⟩ := Sl.row hown4
  have hB4 := hB3.trans (hb4.mono hB3.size)
  clear hP hown4 hb4 hB3 hconv
  have hc := newReader_any A4 c4 X w4 hs4 (by omega) hXb
  go_wp2_with fail
  refine hc.mono ?_
  rintro e w5 ⟨r, rfl, hR5, hr5, hb5⟩
  have hB5 := hB4.trans (hb5.mono hB4.size)
  have hrW := Nat.le_trans hB4.size hr5
  clear hc hb5 hr5 hB4 hs4
  have hc : Calls Tryd.prog 30 #[.pointer (some ⟨r, 0, none⟩)] w5 (GivesBoolR ad w5 w4.heap.size r X false (1, none)) := by
    have h := bool_any (o := none) _ (hE.below hB5).three ⟨_, hR5, rfl⟩
    rw [HN.out.1] at h
    exact h
  go_wp2_with fail
  refine hc.mono ?_
  rintro e w6 ⟨rfl, hR6, he6⟩
  have hR6 : RdrL ad w6 w4.heap.size r X 1 none := hR6
  have hB6 : Below w.heap.size w w6 := he6.below hB5 hB5.size (fun i hi h => by omega)
  clear hc he6 hR5 hB5
  have hc := text_any (k : Int) w6 (hE.below hB6).three hR6
  by_cases hmk : m ≤ k
  · have ht : textR X k 1 none = (s, X.length, none) := by rw [text_read HN.out.2 (by have := HS.out; omega) (by have := HS.out; omega), HXl.out]
    have hmk' : (m : Int) ≤ k := by omega
    rw [ht] at hc
    clear ht hmk
    go_wp2_with fail
    refine hc.mono ?_
    rintro e w7 ⟨rfl, ⟨ev, hR7, hev⟩, he7⟩
    have hev : ev = .nilIface := hev
    subst hev
    have hB7 : Below w.heap.size w w7 := he7.below hB6 hB6.size (fun i hi h => by omega)
    have hsm : ((s.size : Int) == (m : Int)) = true := by rw [beq_iff_eq]; have := HS.out; omega
    clear hc he7 hB6 hR6
    go_wp2_with fail
    refine (errOf_any _ hR7).mono ?_
    rintro e w' ⟨rfl, rfl⟩
    go_wp2_with fail
    refine (left_any _ hR7).mono ?_
    rintro e w' ⟨rfl, q, rfl⟩
    have hB8 := below_drewN hB7 q
    go_wp2_with fail
    go_ret
    exact ⟨rfl, hB8⟩
  · have ht : textR X k 1 none = (ByteArray.empty, 1, some (103, 1)) := text_long HN.out.2 (by have := HS.out; omega) (by have := HS.out; omega)
    have hmk' : ¬ (m : Int) ≤ k := by omega
    rw [ht] at hc
    clear ht hmk
    go_wp2_with fail
    refine hc.mono ?_
    rintro e w7 ⟨rfl, ⟨ev, hR7, B, rfl, hb7, hBr⟩, he7⟩
    have hB7 : Below w.heap.size w w7 := he7.below hB6 hB6.size (fun i hi h => by omega)
    clear hc he7 hB6 hR6
    go_wp2_with fail
    refine (errOf_any _ hR7).mono ?_
    rintro e w' ⟨rfl, rfl⟩
    go_wp2_with fail
    refine (placed_any 103 1 (by decide) _).mono ?_
    rintro e w8 ⟨rfl, hb8⟩
    have hB8 := hB7.trans (hb8.mono hB7.size)
    have hBlk := (Eff.of_below (S := fun _ => False) hb8).blk hb7 (fun h => h)
    clear hR7 hb7 hb8 hB7
    go_wp2_with fail
    refine (same_at (hE.below hB8) (IsErr.mk (by decide)) hBlk).mono ?_
    rintro e w9 ⟨rfl, hb9⟩
    have hB9 := hB8.trans (hb9.mono hB8.size)
    go_wp2_with fail
    go_ret
    exact ⟨rfl, hB9⟩
end Go.Proofs.YtogcbiooddodlaaDoor
