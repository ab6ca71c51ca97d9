/- CellPlays: the walk's main way: at most 40 bytes, 60 things. -/
import Derived.Test.YtmfdpjijpbgjbaaDoorCellPlaysWalk
import Derived.Test.YtmfdpjijpbgjbaaDoorRegions
import Derived.Deep.CutBlock
namespace Go.Proofs.YtmfdpjijpbgjbaaDoor
open Go.RowKit
set_option linter.unusedSimpArgs false

set_option maxRecDepth 100000 in
set_option maxHeartbeats 8000000 in
theorem cellPlays_main {ad : Int → Addr} (n : Nat) (A : Option Addr) (cp : Nat) (ds : List PDo) (w : World) (hE : Errs ad w) (hx : Sl w A (ds.flatMap PDo.cells)) (hdo : ∀ d ∈ ds, d.ok) (hn1 : 1 ≤ n) (hn2 : n ≤ 40) (hm : ds.length ≤ 60) :
    Calls Tryd.prog 5 #[.int .i64 n, .slice A ds.length cp] w (SaysTrue w) := by
  have g1 : ¬ (n : Int) < 1 := by omega
  have g2 : ¬ 4096 < (n : Int) := by omega
  have g3 : ¬ 40 < (n : Int) := by omega
  have g4 : ¬ 60 < (ds.length : Int) := by omega
  obtain ⟨ti, hi, hz, hsz, hby⟩ := info_parts rowBytes.info
  have HI := hid (And.intro hi (And.intro hz (And.intro hsz hby)))
  have hmm : n ≤ maxLen := by unfold maxLen; omega
  have hb2 : ti.bytes * n ≤ 281474976710656 := by rw [hby]; omega
  have HM := hid (And.intro hmm hb2)
  clear hi hz hsz hby hmm hb2
  go_enter Tryd.func5, Tryd.ntmps5
  go_wp2_with fail
  refine (first_any _ hE).mono ?_
  rintro e w1 ⟨rfl, hB1⟩
  go_wp2_with fail
  refine (new_yes n _ (by omega) (by omega)).mono ?_
  rintro e w2 ⟨b, g, rfl, hc2, hbB, hgB, hb2⟩
  have hB2 := hB1.trans (hb2.mono hB1.size)
  have hbW : w.heap.size ≤ b := Nat.le_trans hB1.size hbB
  have hgW : w.heap.size ≤ g := Nat.le_trans hB1.size hgB
  clear hB1 hb2 hbB hgB
  go_wp2_with (at_make; refine wpList_make_full _ rfl _ _ 41 rfl w2.heap.size 5 ti (.int .u8 0) 1 Tryd.underlying41 HI.out.1 HI.out.2.1 HI.out.2.2.1 .i64 .i64 _ _ n rfl rfl rfl rfl HM.out.2 HM.out.1 (Nat.le_refl _) ?_; intro w3 hown hg)
  have hcs : (madeCells (Value.int .u8 0).cells (n * 1)).toList = (Cl.new n).bs.map (Value.int .u8) := by
    rw [show (Value.int .u8 0).cells = #[Value.int .u8 0] from rfl, toList_madeCells_one]
    simp [Cl.new]
  rw [hcs] at hown
  have hb3 : Below w2.heap.size w2 w3 := ⟨hg.os, hg.tape, hg.output, hg.size, fun k hk => hg.block k hk (by simp)⟩
  obtain ⟨rg, hrgB, hr4⟩ := ref_boxed hown (by omega)
  have hB3 := hB2.trans (hb3.mono hB2.size)
  have hB4 := hB3.alloc hB3.size (.cells #[.slice (some ⟨w2.heap.size, 0, none⟩) n n, .int .i64 0, .int .i64 0, .bool false] 43)
  have hc4 : CellIs (w3.alloc (.cells #[.slice (some ⟨w2.heap.size, 0, none⟩) n n, .int .i64 0, .int .i64 0, .bool false] 43)) b g (Cl.new n) :=
    hc2.below (hb3.trans ((Below.refl _ _).alloc hb3.size _))
  have hlt2 := hc2.lt
  have hl1 : b < w3.heap.size ∧ g < w3.heap.size := ⟨Nat.lt_of_lt_of_le hlt2.1 hb3.size, Nat.lt_of_lt_of_le hlt2.2 hb3.size⟩
  have hl2 : b < rg ∧ g < rg := ⟨by omega, by omega⟩
  have hl3 : w.heap.size ≤ w3.heap.size ∧ w.heap.size ≤ rg := ⟨hB3.size, Nat.le_trans hB2.size hrgB⟩
  clear hown hg hcs hb3 hB3 hB2 hc2 hlt2 hrgB
  generalize w3.heap.size = rb at *
  go_loopw [9] (fun i wr => PlaysRel w b g rb rg n ds.length i wr) (fun i _ => ds.length - (intOf i).toNat)
  case atStart => unfold PlaysRel; exact ⟨0, Cl.new n, by omega, rfl, hc4, hr4, hB4, Cl.new_ok n, by simp [Cl.new], by simp [Cl.new], by simp [Cl.new]⟩
  case round =>
    clear hc4 hr4 hB4
    unfold PlaysRel at hrel
    obtain ⟨k, c, hk, rfl, hc, hr, hB, hok, hlen, hw0, hw1⟩ := hrel
    have HL := hid hlen
    clear hlen
    by_cases hlt : k < ds.length
    · obtain ⟨b0, o0, rfl, hbw, hcx⟩ := hx.at (by rw [flat_length PDo.len]; omega)
      obtain ⟨d, hd⟩ : ∃ d, ds[k]? = some d := ⟨ds[k], List.getElem?_eq_getElem hlt⟩
      have hdk : d.ok := hdo d (List.mem_of_getElem? hd)
      have hcell : ∀ j, j < 3 → w.cell? ⟨b0, o0 + (k * 3 + j), none⟩ = d.cells[j]? := fun j hj => by
        rw [hcx (k * 3 + j) (by rw [flat_length PDo.len]; omega)]
        have := flat_get PDo.len ds [] k j d hd hj
        simpa using this
      have e0 : Hid (w.cell? ⟨b0, o0 + k * 3, none⟩ = some (.int .i64 d.kind)) := hcell 0 (by omega)
      have e1 : Hid (w.cell? ⟨b0, o0 + k * 3 + 1, none⟩ = some (.int .i64 d.n)) := hcell 1 (by omega)
      have e2 : Hid (w.cell? ⟨b0, o0 + k * 3 + 2, none⟩ = some (.int .u8 d.b)) := hcell 2 (by omega)
      clear hcell hcx hd
      go_wp2_with fail
      refine (cellClone_any _ hc (by rw [HL.out]; omega) (by rw [HL.out]; omega)).mono ?_
      rintro e w5 ⟨bc, gc, rfl, hq5, hb5, hg5, hbl5⟩
      have hB5 := hB.trans (hbl5.mono hB.size)
      have hc5 := hc.below hbl5
      have hr5 := hr.below hbl5
      have hlc := hc.lt
      have hlr := hr.lt
      have hl4 : b < bc ∧ b < gc ∧ g < bc ∧ g < gc ∧ rb < bc ∧ rb < gc ∧ rg < bc ∧ rg < gc := ⟨by omega, by omega, by omega, by omega, by omega, by omega, by omega, by omega⟩
      have hl5 : w.heap.size ≤ bc ∧ w.heap.size ≤ gc := ⟨by have := hB.size; omega, by have := hB.size; omega⟩
      clear hc hr hB hbl5 hlc hlr hb5 hg5
      go_wp2_with fail
      refine (writes_any _ hq5).mono ?_
      rintro e w' ⟨rfl, rfl⟩
      have d0 : w5.cell? ⟨b0, o0 + k * 3, none⟩ = some (.int .i64 d.kind) := (hB5.cell (p := ⟨b0, o0 + k * 3, none⟩) hbw).trans e0.out
      go_upto_block 2 with (fail)
      go_cut [] (fun wx => PlaysMid w b g rb rg bc gc (c.told d) c wx)
      case first =>
        by_cases hk1 : d.kind = 1
        · have hkb : (d.kind == 1) = true := by simpa using hk1
          have HT : Hid (c.told d = c.put d.n d.b) := by simp [Hid, Cl.told, hk1]
          clear hk1
          go_wp2_with fail
          clear d0 hkb
          have hB5d := hB5.drew
          have hc5d : CellIs w5.drew b g c := hc5
          have hr5d : RefAt w5.drew rb rg c := hr5
          have hq5d : CellIs w5.drew bc gc c := hq5
          clear hB5 hc5 hr5 hq5
          refine wp_region_held_drew (S := fun w' => w'.cell? ⟨b0, o0 + k * 3 + 1, none⟩ = some (.int .i64 d.n) ∧ w'.cell? ⟨b0, o0 + k * 3 + 2, none⟩ = some (.int .u8 d.b)) (by kernel_rfl) ?_ (fun hHeld => ?_)
          · (try dsimp only); (first | exact ⟨(hB5d.cell (p := ⟨b0, o0 + k * 3 + 1, none⟩) hbw).trans e1.out, (hB5d.cell (p := ⟨b0, o0 + k * 3 + 2, none⟩) hbw).trans e2.out⟩ | exact ⟨(hB6.cell (p := ⟨b0, o0 + k * 3 + 1, none⟩) hbw).trans e1.out, (hB6.cell (p := ⟨b0, o0 + k * 3 + 2, none⟩) hbw).trans e2.out⟩ | exact ⟨(hB7.cell (p := ⟨b0, o0 + k * 3 + 1, none⟩) hbw).trans e1.out, (hB7.cell (p := ⟨b0, o0 + k * 3 + 2, none⟩) hbw).trans e2.out⟩ | exact ⟨(hB8.cell (p := ⟨b0, o0 + k * 3 + 1, none⟩) hbw).trans e1.out, (hB8.cell (p := ⟨b0, o0 + k * 3 + 2, none⟩) hbw).trans e2.out⟩)
          refine held_take 0 ?_ rfl (by kernel_rfl) (by kernel_rfl) (by kernel_rfl) (fun _ _ _ h => h) (by rfl) ?_ hHeld ?_
          rotate_left
          · (intro w hSw; (try dsimp only at hSw); go_simp; try with_reducible rfl)
          try simp only [Act.put, List.setIfInBounds_toArray, List.set_cons_zero, List.set_cons_succ]
          refine held_take 1 ?_ rfl (by kernel_rfl) (by kernel_rfl) (by kernel_rfl) (fun _ _ _ h => h) (by rfl) ?_ hHeld ?_
          rotate_left
          · (intro w hSw; (try dsimp only at hSw); go_simp; try with_reducible rfl)
          try simp only [Act.put, List.setIfInBounds_toArray, List.set_cons_zero, List.set_cons_succ]
          refine held_take 2 ?_ rfl (by kernel_rfl) (by kernel_rfl) (by kernel_rfl) (fun _ _ _ h => h) (by rfl) ?_ hHeld ?_
          rotate_left
          · (intro w hSw; (try dsimp only at hSw); go_simp; try with_reducible rfl)
          try simp only [Act.put, List.setIfInBounds_toArray, List.set_cons_zero, List.set_cons_succ]
          refine held_take 3 ?_ rfl (by kernel_rfl) (by kernel_rfl) (by kernel_rfl) (fun _ _ _ h => h) (by rfl) ?_ hHeld ?_
          rotate_left
          · (intro w hSw; (try dsimp only at hSw); go_simp; try with_reducible rfl)
          try simp only [Act.put, List.setIfInBounds_toArray, List.set_cons_zero, List.set_cons_succ]
          refine held_take 4 ?_ rfl (by kernel_rfl) (by kernel_rfl) (by kernel_rfl) (fun _ _ _ h => h) (by rfl) ?_ hHeld ?_
          rotate_left
          · (intro w hSw; (try dsimp only at hSw); go_simp; try with_reducible rfl)
          try simp only [Act.put, List.setIfInBounds_toArray, List.set_cons_zero, List.set_cons_succ]
          refine held_take 5 ?_ rfl (by kernel_rfl) (by kernel_rfl) (by kernel_rfl) (fun _ _ _ h => h) (by rfl) ?_ hHeld ?_
          rotate_left
          · (intro w hSw; (try dsimp only at hSw); go_simp; try with_reducible rfl)
          try simp only [Act.put, List.setIfInBounds_toArray, List.set_cons_zero, List.set_cons_succ]
          refine held_take 6 ?_ rfl (by kernel_rfl) (by kernel_rfl) (by kernel_rfl) (fun _ _ _ h => h) (by rfl) ?_ hHeld ?_
          rotate_left
          · (intro w hSw; (try dsimp only at hSw); go_simp; try with_reducible rfl)
          try simp only [Act.put, List.setIfInBounds_toArray, List.set_cons_zero, List.set_cons_succ]
          refine held_take 7 ?_ rfl (by kernel_rfl) (by kernel_rfl) (by kernel_rfl) (fun _ _ _ h => h) (by rfl) ?_ hHeld ?_
          rotate_left
          · (intro w hSw; (try dsimp only at hSw); go_simp; try with_reducible rfl)
          try simp only [Act.put, List.setIfInBounds_toArray, List.set_cons_zero, List.set_cons_succ]
          refine held_take 8 ?_ rfl (by kernel_rfl) (by kernel_rfl) (by kernel_rfl) (fun _ _ _ h => h) (by rfl) ?_ hHeld ?_
          rotate_left
          · (intro w hSw; (try dsimp only at hSw); go_simp; try with_reducible rfl)
          try simp only [Act.put, List.setIfInBounds_toArray, List.set_cons_zero, List.set_cons_succ]
          refine held_take 9 ?_ rfl (by kernel_rfl) (by kernel_rfl) (by kernel_rfl) (fun _ _ _ h => h) (by rfl) ?_ hHeld ?_
          rotate_left
          · (intro w hSw; (try dsimp only at hSw); go_simp; try with_reducible rfl)
          try simp only [Act.put, List.setIfInBounds_toArray, List.set_cons_zero, List.set_cons_succ]
          refine held_take 10 ?_ rfl (by kernel_rfl) (by kernel_rfl) (by kernel_rfl) (fun _ _ _ h => h) (by rfl) ?_ hHeld ?_
          rotate_left
          · (intro w hSw; (try dsimp only at hSw); go_simp; try with_reducible rfl)
          try simp only [Act.put, List.setIfInBounds_toArray, List.set_cons_zero, List.set_cons_succ]
          refine held_take 12 ?_ rfl (by kernel_rfl) (by kernel_rfl) (by kernel_rfl) (fun _ _ _ h => h) (by rfl) ?_ hHeld ?_
          rotate_left
          · (intro w hSw; (try dsimp only at hSw); go_simp; try with_reducible rfl)
          try simp only [Act.put, List.setIfInBounds_toArray, List.set_cons_zero, List.set_cons_succ]
          refine held_take 13 ?_ rfl (by kernel_rfl) (by kernel_rfl) (by kernel_rfl) (fun _ _ _ h => h) (by rfl) ?_ hHeld ?_
          rotate_left
          · (intro w hSw; (try dsimp only at hSw); go_simp; try with_reducible rfl)
          try simp only [Act.put, List.setIfInBounds_toArray, List.set_cons_zero, List.set_cons_succ]
          refine held_take 14 ?_ rfl (by kernel_rfl) (by kernel_rfl) (by kernel_rfl) (fun _ _ _ h => h) (by rfl) ?_ hHeld ?_
          rotate_left
          · (intro w hSw; (try dsimp only at hSw); go_simp; try with_reducible rfl)
          try simp only [Act.put, List.setIfInBounds_toArray, List.set_cons_zero, List.set_cons_succ]
          refine held_take 15 ?_ rfl (by kernel_rfl) (by kernel_rfl) (by kernel_rfl) (fun _ _ _ h => h) (by rfl) ?_ hHeld ?_
          rotate_left
          · (intro w hSw; (try dsimp only at hSw); go_simp; try with_reducible rfl)
          try simp only [Act.put, List.setIfInBounds_toArray, List.set_cons_zero, List.set_cons_succ]
          refine held_take 16 ?_ rfl (by kernel_rfl) (by kernel_rfl) (by kernel_rfl) (fun _ _ _ h => h) (by rfl) ?_ hHeld ?_
          rotate_left
          · (intro w hSw; (try dsimp only at hSw); go_simp; try with_reducible rfl)
          try simp only [Act.put, List.setIfInBounds_toArray, List.set_cons_zero, List.set_cons_succ]
          refine held_take 17 ?_ rfl (by kernel_rfl) (by kernel_rfl) (by kernel_rfl) (fun _ _ _ h => h) (by rfl) ?_ hHeld ?_
          rotate_left
          · (intro w hSw; (try dsimp only at hSw); go_simp; try with_reducible rfl)
          try simp only [Act.put, List.setIfInBounds_toArray, List.set_cons_zero, List.set_cons_succ]
          refine held_take 18 ?_ rfl (by kernel_rfl) (by kernel_rfl) (by kernel_rfl) (fun _ _ _ h => h) (by rfl) ?_ hHeld ?_
          rotate_left
          · (intro w hSw; (try dsimp only at hSw); go_simp; try with_reducible rfl)
          try simp only [Act.put, List.setIfInBounds_toArray, List.set_cons_zero, List.set_cons_succ]
          refine held_take 19 ?_ rfl (by kernel_rfl) (by kernel_rfl) (by kernel_rfl) (fun _ _ _ h => h) (by rfl) ?_ hHeld ?_
          rotate_left
          · (intro w hSw; (try dsimp only at hSw); go_simp; try with_reducible rfl)
          try simp only [Act.put, List.setIfInBounds_toArray, List.set_cons_zero, List.set_cons_succ]
          refine held_take 20 ?_ rfl (by kernel_rfl) (by kernel_rfl) (by kernel_rfl) (fun _ _ _ h => h) (by rfl) ?_ hHeld ?_
          rotate_left
          · (intro w hSw; (try dsimp only at hSw); go_simp; try with_reducible rfl)
          try simp only [Act.put, List.setIfInBounds_toArray, List.set_cons_zero, List.set_cons_succ]
          refine held_take 21 ?_ rfl (by kernel_rfl) (by kernel_rfl) (by kernel_rfl) (fun _ _ _ h => h) (by rfl) ?_ hHeld ?_
          rotate_left
          · (intro w hSw; (try dsimp only at hSw); go_simp; try with_reducible rfl)
          try simp only [Act.put, List.setIfInBounds_toArray, List.set_cons_zero, List.set_cons_succ]
          refine held_take 22 ?_ rfl (by kernel_rfl) (by kernel_rfl) (by kernel_rfl) (fun _ _ _ h => h) (by rfl) ?_ hHeld ?_
          rotate_left
          · (intro w hSw; (try dsimp only at hSw); go_simp; try with_reducible rfl)
          try simp only [Act.put, List.setIfInBounds_toArray, List.set_cons_zero, List.set_cons_succ]
          refine held_one 11 rfl (by kernel_rfl) (by rfl) (fun K hK => ?_)
          go_simp
          refine (put_any d.n d.b _ (hE.below hB5d).four hc5d hok ⟨hw0, by omega⟩).mono ?_
          rintro e w6 ⟨rfl, hc6, he6⟩
          have hB6 := at2_below hB5d he6 hbW hgW
          have hr6 := hr5d.off he6 (by omega) (by omega) (by omega) (by omega)
          have hq6 := hq5d.off he6 (by omega) (by omega) (by omega) (by omega)
          clear hc5d hr5d hq5d
          refine hK.out _ _ ?_ (fun hHeld2 => ?_)
          · (try dsimp only); (first | exact ⟨(hB5d.cell (p := ⟨b0, o0 + k * 3 + 1, none⟩) hbw).trans e1.out, (hB5d.cell (p := ⟨b0, o0 + k * 3 + 2, none⟩) hbw).trans e2.out⟩ | exact ⟨(hB6.cell (p := ⟨b0, o0 + k * 3 + 1, none⟩) hbw).trans e1.out, (hB6.cell (p := ⟨b0, o0 + k * 3 + 2, none⟩) hbw).trans e2.out⟩ | exact ⟨(hB7.cell (p := ⟨b0, o0 + k * 3 + 1, none⟩) hbw).trans e1.out, (hB7.cell (p := ⟨b0, o0 + k * 3 + 2, none⟩) hbw).trans e2.out⟩ | exact ⟨(hB8.cell (p := ⟨b0, o0 + k * 3 + 1, none⟩) hbw).trans e1.out, (hB8.cell (p := ⟨b0, o0 + k * 3 + 2, none⟩) hbw).trans e2.out⟩)
          clear hK K hHeld
          have hHeld := hHeld2
          clear hHeld2
          try simp only [Act.put, List.setIfInBounds_toArray, List.set_cons_zero, List.set_cons_succ]
          refine held_one 23 rfl (by kernel_rfl) (by rfl) (fun K hK => ?_)
          go_simp
          refine (refPut_any d.n d.b _ hr6 hok ⟨hw0, by omega⟩).mono ?_
          rintro e w7 ⟨rfl, hr7, he7⟩
          have hB7 := at2_below hB6 he7 hl3.1 hl3.2
          have hc7 := hc6.off he7 (by omega) (by omega) (by omega) (by omega)
          have hq7 := hq6.off he7 (by omega) (by omega) (by omega) (by omega)
          clear hc6 hr6 hq6
          refine hK.out _ _ ?_ (fun hHeld2 => ?_)
          · (try dsimp only); (first | exact ⟨(hB5d.cell (p := ⟨b0, o0 + k * 3 + 1, none⟩) hbw).trans e1.out, (hB5d.cell (p := ⟨b0, o0 + k * 3 + 2, none⟩) hbw).trans e2.out⟩ | exact ⟨(hB6.cell (p := ⟨b0, o0 + k * 3 + 1, none⟩) hbw).trans e1.out, (hB6.cell (p := ⟨b0, o0 + k * 3 + 2, none⟩) hbw).trans e2.out⟩ | exact ⟨(hB7.cell (p := ⟨b0, o0 + k * 3 + 1, none⟩) hbw).trans e1.out, (hB7.cell (p := ⟨b0, o0 + k * 3 + 2, none⟩) hbw).trans e2.out⟩ | exact ⟨(hB8.cell (p := ⟨b0, o0 + k * 3 + 1, none⟩) hbw).trans e1.out, (hB8.cell (p := ⟨b0, o0 + k * 3 + 2, none⟩) hbw).trans e2.out⟩)
          clear hK K hHeld
          have hHeld := hHeld2
          clear hHeld2
          try simp only [Act.put, List.setIfInBounds_toArray, List.set_cons_zero, List.set_cons_succ]
          refine held_one 24 rfl (by kernel_rfl) (by rfl) (fun K hK => ?_)
          go_simp
          refine (is_any (c.putE d.n) (hE.below hB7) (putE_bare c d.n)).mono ?_
          rintro e w8 ⟨rfl, hb8⟩
          rw [show (c.putE d.n == c.putE d.n) = true from by simp]
          have hB8 := hB7.trans (hb8.mono hB7.size)
          have hc8 := hc7.below hb8
          have hr8 := hr7.below hb8
          have hq8 := hq7.below hb8
          clear hc7 hr7 hq7
          refine hK.out _ _ ?_ (fun hHeld2 => ?_)
          · (try dsimp only); (first | exact ⟨(hB5d.cell (p := ⟨b0, o0 + k * 3 + 1, none⟩) hbw).trans e1.out, (hB5d.cell (p := ⟨b0, o0 + k * 3 + 2, none⟩) hbw).trans e2.out⟩ | exact ⟨(hB6.cell (p := ⟨b0, o0 + k * 3 + 1, none⟩) hbw).trans e1.out, (hB6.cell (p := ⟨b0, o0 + k * 3 + 2, none⟩) hbw).trans e2.out⟩ | exact ⟨(hB7.cell (p := ⟨b0, o0 + k * 3 + 1, none⟩) hbw).trans e1.out, (hB7.cell (p := ⟨b0, o0 + k * 3 + 2, none⟩) hbw).trans e2.out⟩ | exact ⟨(hB8.cell (p := ⟨b0, o0 + k * 3 + 1, none⟩) hbw).trans e1.out, (hB8.cell (p := ⟨b0, o0 + k * 3 + 2, none⟩) hbw).trans e2.out⟩)
          clear hK K hHeld
          have hHeld := hHeld2
          clear hHeld2
          try simp only [Act.put, List.setIfInBounds_toArray, List.set_cons_zero, List.set_cons_succ]
          refine held_take 25 ?_ rfl (by kernel_rfl) (by kernel_rfl) (by kernel_rfl) (fun _ _ _ h => h) (by rfl) ?_ hHeld ?_
          rotate_left
          · (intro w hSw; (try dsimp only at hSw); go_simp; try with_reducible rfl)
          try simp only [Act.put, List.setIfInBounds_toArray, List.set_cons_zero, List.set_cons_succ]
          refine wpAnyH_done (by kernel_rfl) ?_ _
          clear hHeld
          go_wp2_with fail
          go_meet
          unfold PlaysMid
          rw [HT.out]
          exact ⟨hc8, hr8, hq8, hB8⟩
        · have hkb : (d.kind == 1) = false := by simpa using hk1
          by_cases hk2 : d.kind = 2
          · have hkb2 : (d.kind == 2) = true := by simpa using hk2
            have HT : Hid (c.told d = c.arm d.n) := by simp [Hid, Cl.told, hk2]
            have d1 : w5.cell? ⟨b0, o0 + k * 3 + 1, none⟩ = some (.int .i64 d.n) := (hB5.cell (p := ⟨b0, o0 + k * 3 + 1, none⟩) hbw).trans e1.out
            clear hk1 hk2
            go_wp2_with fail
            clear d1 d0 hkb hkb2
            refine (arm_any d.n _ hc5).mono ?_
            rintro e w6 ⟨rfl, hc6, he6⟩
            have hB6 := at2_below hB5 he6 hbW hgW
            have hr6 := hr5.off he6 (by omega) (by omega) (by omega) (by omega)
            have hq6 := hq5.off he6 (by omega) (by omega) (by omega) (by omega)
            have d1 : w6.cell? ⟨b0, o0 + k * 3 + 1, none⟩ = some (.int .i64 d.n) := (hB6.cell (p := ⟨b0, o0 + k * 3 + 1, none⟩) hbw).trans e1.out
            have HQ := hid (ref_arm d.n hr6)
            have hf := ref_free hr6
            have hf1 := ref_left hr6
            clear hc5 hr5 hq5 hB5 he6
            go_wp2_with fail
            · have h : d.n < 0 := by assumption
              have h2 := HQ.out
              rw [Int.max_eq_right (by omega)] at h2
              go_meet
              unfold PlaysMid
              rw [HT.out]
              exact ⟨hc6.off h2.2 (by omega) (by omega) (by omega) (by omega), h2.1, hq6.off h2.2 (by omega) (by omega) (by omega) (by omega), at2_below hB6 h2.2 hl3.1 hl3.2⟩
            · have h : 0 ≤ d.n := by assumption
              have h2 := HQ.out
              rw [Int.max_eq_left h] at h2
              go_meet
              unfold PlaysMid
              rw [HT.out]
              exact ⟨hc6.off h2.2 (by omega) (by omega) (by omega) (by omega), h2.1, hq6.off h2.2 (by omega) (by omega) (by omega) (by omega), at2_below hB6 h2.2 hl3.1 hl3.2⟩
          · have hkb2 : (d.kind == 2) = false := by simpa using hk2
            by_cases hk3 : d.kind = 3
            · have hkb3 : (d.kind == 3) = true := by simpa using hk3
              have HT : Hid (c.told d = c.back) := by simp [Hid, Cl.told, hk3]
              clear hk1 hk2 hk3
              go_wp2_with fail
              clear d0 hkb hkb2 hkb3
              refine (back_any _ hc5).mono ?_
              rintro e w6 ⟨rfl, hc6, he6⟩
              have hB6 := at2_below hB5 he6 hbW hgW
              have hr6 := hr5.off he6 (by omega) (by omega) (by omega) (by omega)
              have hq6 := hq5.off he6 (by omega) (by omega) (by omega) (by omega)
              clear hc5 hr5 hq5 hB5 he6
              go_wp2_with fail
              refine (refBack_any _ hr6).mono ?_
              rintro e w7 ⟨rfl, hr7, he7⟩
              go_wp2_with fail
              go_meet
              unfold PlaysMid
              rw [HT.out]
              exact ⟨hc6.off he7 (by omega) (by omega) (by omega) (by omega), hr7, hq6.off he7 (by omega) (by omega) (by omega) (by omega), at2_below hB6 he7 hl3.1 hl3.2⟩
            · have hkb3 : (d.kind == 3) = false := by simpa using hk3
              have HT : Hid (c.told d = c) := by simp [Hid, Cl.told, hk1, hk2, hk3]
              clear hk1 hk2 hk3
              go_wp2_with fail
              go_meet
              unfold PlaysMid
              rw [HT.out]
              exact ⟨hc5, hr5, hq5, hB5⟩
      case rest =>
        clear hc5 hr5 hq5 hB5 d0
        obtain ⟨hc6, hr6, hq6, hB6⟩ := hcut
        have hok6 := Cl.told_ok hok hdk
        have HL6 : Hid ((c.told d).bs.length = n) := by rw [Hid, Cl.told_len]; exact HL.out
        have hw6 := Cl.told_writes c d
        generalize c.told d = c6 at *
        go_wp2_with fail
        go_loopw [12] (fun i wr => PlaysRead w b g rb rg bc gc n c6 c i wr) (fun i _ => n + 2 - (intOf i + 1).toNat)
        case atStart => unfold PlaysRead; exact ⟨0, by omega, rfl, hc6, hr6, hq6, hB6⟩
        case round =>
          clear hc6 hr6 hq6 hB6
          unfold PlaysRead at hrel
          obtain ⟨j, hj, rfl, hc7, hr7, hq7, hB7⟩ := hrel
          by_cases hjl : j < n + 2
          · have p1 := get_any (ad := ad) ((j : Int) - 1) _ (hE.below hB7).four hc7
            have hEb := getE_bare c6 ((j : Int) - 1)
            have p2 : ∀ w, RefAt w rb rg c6 → _ := fun w h => refGet_any ((j : Int) - 1) w h
            generalize c6.get ((j : Int) - 1) = x at *
            generalize c6.getE ((j : Int) - 1) = y at *
            have P1 := hid p1
            have P2 := hid p2
            clear p1 p2
            go_wp2_with fail
            refine P1.out.mono ?_
            rintro e w8 ⟨rfl, q1, rfl⟩
            have hB8 := below_drewN hB7 q1
            have hc8 : CellIs (_root_.Go.World.drewN _ q1) b g c6 := hc7
            have hr8 : RefAt (_root_.Go.World.drewN _ q1) rb rg c6 := hr7
            have hq8 : CellIs (_root_.Go.World.drewN _ q1) bc gc c := hq7
            clear P1 hc7 hr7 hq7 hB7
            go_wp2_with fail
            refine (P2.out _ hr8).mono ?_
            rintro e w' ⟨rfl, rfl⟩
            go_wp2_with fail
            refine (is_any y (hE.below hB8) hEb).mono ?_
            rintro e w9 ⟨rfl, hb9⟩
            rw [show (y == y) = true from by simp]
            have hB9 := hB8.trans (hb9.mono hB8.size)
            have hc9 := hc8.below hb9
            have hr9 := hr8.below hb9
            have hq9 := hq8.below hb9
            clear P2 hc8 hr8 hq8 hB8 hb9
            go_wp2_with fail
            go_roundw
            case rel => unfold PlaysRead; exact ⟨j + 1, by omega, by go_num, hc9, hr9, hq9, hB9⟩
            case measure => simp [intOf]; omega
          · have hje : ¬ ((j : Int) - 1 ≤ (n : Int)) := by omega
            have f1 : (c6.down != c6.down) = false := by simp
            have f2 : (c6.writes != c6.writes) = false := by simp
            have f3 : (c.writes != c.writes) = false := by simp
            have f4 : ((n : Int) != (n : Int)) = false := by simp
            go_wp2_with fail
            have hc8 : CellIs (_root_.Go.World.drew _) b g c6 := hc7
            have hr8 : RefAt (_root_.Go.World.drew _) rb rg c6 := hr7
            have hq8 : CellIs (_root_.Go.World.drew _) bc gc c := hq7
            have hB8 := hB7.drew
            have x2 := ref_writes hr8
            have x3 := ref_down hr8
            clear hr7 hc7 hq7 hB7
            refine wp_region_held_drew (S := fun w' => w'.cell? ⟨rb, 2, none⟩ = some (.int .i64 c6.writes) ∧ w'.cell? ⟨rb, 3, none⟩ = some (.bool c6.down)) (by kernel_rfl) ?_ (fun hHeld => ?_)
            · (try dsimp only); (exact ⟨x2, x3⟩)
            refine held_take 0 ?_ rfl (by kernel_rfl) (by kernel_rfl) (by kernel_rfl) (fun _ _ _ h => h) (by rfl) ?_ hHeld ?_
            rotate_left
            · (intro w hSw; (try dsimp only at hSw); go_simp; try with_reducible rfl)
            try simp only [Act.put, List.setIfInBounds_toArray, List.set_cons_zero, List.set_cons_succ]
            refine held_take 2 ?_ rfl (by kernel_rfl) (by kernel_rfl) (by kernel_rfl) (fun _ _ _ h => h) (by rfl) ?_ hHeld ?_
            rotate_left
            · (intro w hSw; (try dsimp only at hSw); go_simp; try with_reducible rfl)
            try simp only [Act.put, List.setIfInBounds_toArray, List.set_cons_zero, List.set_cons_succ]
            refine held_take 3 ?_ rfl (by kernel_rfl) (by kernel_rfl) (by kernel_rfl) (fun _ _ _ h => h) (by rfl) ?_ hHeld ?_
            rotate_left
            · (intro w hSw; (try dsimp only at hSw); go_simp; try with_reducible rfl)
            try simp only [Act.put, List.setIfInBounds_toArray, List.set_cons_zero, List.set_cons_succ]
            refine held_take 4 ?_ rfl (by kernel_rfl) (by kernel_rfl) (by kernel_rfl) (fun _ _ _ h => h) (by rfl) ?_ hHeld ?_
            rotate_left
            · (intro w hSw; (try dsimp only at hSw); go_simp; try with_reducible rfl)
            try simp only [Act.put, List.setIfInBounds_toArray, List.set_cons_zero, List.set_cons_succ]
            refine held_take 5 ?_ rfl (by kernel_rfl) (by kernel_rfl) (by kernel_rfl) (fun _ _ _ h => h) (by rfl) ?_ hHeld ?_
            rotate_left
            · (intro w hSw; (try dsimp only at hSw); go_simp; try with_reducible rfl)
            try simp only [Act.put, List.setIfInBounds_toArray, List.set_cons_zero, List.set_cons_succ]
            refine held_one 1 rfl (by kernel_rfl) (by rfl) (fun K hK => ?_)
            go_simp
            refine (down_any _ hc8).mono ?_
            rintro e w' ⟨rfl, rfl⟩
            refine hK.out _ _ ?_ (fun hHeld2 => ?_)
            · (try dsimp only); (exact ⟨x2, x3⟩)
            clear hK K hHeld
            have hHeld := hHeld2
            clear hHeld2
            try simp only [Act.put, List.setIfInBounds_toArray, List.set_cons_zero, List.set_cons_succ]
            refine held_take 6 ?_ rfl (by kernel_rfl) (by kernel_rfl) (by kernel_rfl) (fun _ _ _ h => h) (by rfl) ?_ hHeld ?_
            rotate_left
            · (intro w hSw; (try dsimp only at hSw); go_simp; try with_reducible rfl)
            try simp only [Act.put, List.setIfInBounds_toArray, List.set_cons_zero, List.set_cons_succ]
            refine held_take 7 ?_ rfl (by kernel_rfl) (by kernel_rfl) (by kernel_rfl) (fun _ _ _ h => h) (by rfl) ?_ hHeld ?_
            rotate_left
            · (intro w hSw; (try dsimp only at hSw); go_simp; try with_reducible rfl)
            try simp only [Act.put, List.setIfInBounds_toArray, List.set_cons_zero, List.set_cons_succ]
            refine held_take 8 ?_ rfl (by kernel_rfl) (by kernel_rfl) (by kernel_rfl) (fun _ _ _ h => h) (by rfl) ?_ hHeld ?_
            rotate_left
            · (intro w hSw; (try dsimp only at hSw); go_simp; try with_reducible rfl)
            try simp only [Act.put, List.setIfInBounds_toArray, List.set_cons_zero, List.set_cons_succ]
            refine held_take 10 ?_ rfl (by kernel_rfl) (by kernel_rfl) (by kernel_rfl) (fun _ _ _ h => h) (by rfl) ?_ hHeld ?_
            rotate_left
            · (intro w hSw; (try dsimp only at hSw); go_simp; try with_reducible rfl)
            try simp only [Act.put, List.setIfInBounds_toArray, List.set_cons_zero, List.set_cons_succ]
            refine held_take 11 ?_ rfl (by kernel_rfl) (by kernel_rfl) (by kernel_rfl) (fun _ _ _ h => h) (by rfl) ?_ hHeld ?_
            rotate_left
            · (intro w hSw; (try dsimp only at hSw); go_simp; try with_reducible rfl)
            try simp only [Act.put, List.setIfInBounds_toArray, List.set_cons_zero, List.set_cons_succ]
            refine held_take 12 ?_ rfl (by kernel_rfl) (by kernel_rfl) (by kernel_rfl) (fun _ _ _ h => h) (by rfl) ?_ hHeld ?_
            rotate_left
            · (intro w hSw; (try dsimp only at hSw); go_simp; try with_reducible rfl)
            try simp only [Act.put, List.setIfInBounds_toArray, List.set_cons_zero, List.set_cons_succ]
            refine held_take 13 ?_ rfl (by kernel_rfl) (by kernel_rfl) (by kernel_rfl) (fun _ _ _ h => h) (by rfl) ?_ hHeld ?_
            rotate_left
            · (intro w hSw; (try dsimp only at hSw); go_simp; try with_reducible rfl)
            try simp only [Act.put, List.setIfInBounds_toArray, List.set_cons_zero, List.set_cons_succ]
            refine held_one 9 rfl (by kernel_rfl) (by rfl) (fun K hK => ?_)
            go_simp
            refine (writes_any _ hc8).mono ?_
            rintro e w' ⟨rfl, rfl⟩
            refine hK.out _ _ ?_ (fun hHeld2 => ?_)
            · (try dsimp only); (exact ⟨x2, x3⟩)
            clear hK K hHeld
            have hHeld := hHeld2
            clear hHeld2
            try simp only [Act.put, List.setIfInBounds_toArray, List.set_cons_zero, List.set_cons_succ]
            refine held_take 14 ?_ rfl (by kernel_rfl) (by kernel_rfl) (by kernel_rfl) (fun _ _ _ h => h) (by rfl) ?_ hHeld ?_
            rotate_left
            · (intro w hSw; (try dsimp only at hSw); go_simp; try with_reducible rfl)
            try simp only [Act.put, List.setIfInBounds_toArray, List.set_cons_zero, List.set_cons_succ]
            refine held_take 15 ?_ rfl (by kernel_rfl) (by kernel_rfl) (by kernel_rfl) (fun _ _ _ h => h) (by rfl) ?_ hHeld ?_
            rotate_left
            · (intro w hSw; (try dsimp only at hSw); go_simp; try with_reducible rfl)
            try simp only [Act.put, List.setIfInBounds_toArray, List.set_cons_zero, List.set_cons_succ]
            refine held_take 16 ?_ rfl (by kernel_rfl) (by kernel_rfl) (by kernel_rfl) (fun _ _ _ h => h) (by rfl) ?_ hHeld ?_
            rotate_left
            · (intro w hSw; (try dsimp only at hSw); go_simp; try with_reducible rfl)
            try simp only [Act.put, List.setIfInBounds_toArray, List.set_cons_zero, List.set_cons_succ]
            refine held_take 17 ?_ rfl (by kernel_rfl) (by kernel_rfl) (by kernel_rfl) (fun _ _ _ h => h) (by rfl) ?_ hHeld ?_
            rotate_left
            · (intro w hSw; (try dsimp only at hSw); go_simp; try with_reducible rfl)
            try simp only [Act.put, List.setIfInBounds_toArray, List.set_cons_zero, List.set_cons_succ]
            refine held_take 19 ?_ rfl (by kernel_rfl) (by kernel_rfl) (by kernel_rfl) (fun _ _ _ h => h) (by rfl) ?_ hHeld ?_
            rotate_left
            · (intro w hSw; (try dsimp only at hSw); go_simp; try with_reducible rfl)
            try simp only [Act.put, List.setIfInBounds_toArray, List.set_cons_zero, List.set_cons_succ]
            refine held_one 18 rfl (by kernel_rfl) (by rfl) (fun K hK => ?_)
            go_simp
            refine (size_any _ hc8).mono ?_
            rintro e w' ⟨rfl, rfl⟩
            rw [HL6.out]
            refine hK.out _ _ ?_ (fun hHeld2 => ?_)
            · (try dsimp only); (exact ⟨x2, x3⟩)
            clear hK K hHeld
            have hHeld := hHeld2
            clear hHeld2
            try simp only [Act.put, List.setIfInBounds_toArray, List.set_cons_zero, List.set_cons_succ]
            refine held_take 20 ?_ rfl (by kernel_rfl) (by kernel_rfl) (by kernel_rfl) (fun _ _ _ h => h) (by rfl) ?_ hHeld ?_
            rotate_left
            · (intro w hSw; (try dsimp only at hSw); go_simp; try with_reducible rfl)
            try simp only [Act.put, List.setIfInBounds_toArray, List.set_cons_zero, List.set_cons_succ]
            refine held_take 21 ?_ rfl (by kernel_rfl) (by kernel_rfl) (by kernel_rfl) (fun _ _ _ h => h) (by rfl) ?_ hHeld ?_
            rotate_left
            · (intro w hSw; (try dsimp only at hSw); go_simp; try with_reducible rfl)
            try simp only [Act.put, List.setIfInBounds_toArray, List.set_cons_zero, List.set_cons_succ]
            refine held_take 22 ?_ rfl (by kernel_rfl) (by kernel_rfl) (by kernel_rfl) (fun _ _ _ h => h) (by rfl) ?_ hHeld ?_
            rotate_left
            · (intro w hSw; (try dsimp only at hSw); go_simp; try with_reducible rfl)
            try simp only [Act.put, List.setIfInBounds_toArray, List.set_cons_zero, List.set_cons_succ]
            refine held_take 23 ?_ rfl (by kernel_rfl) (by kernel_rfl) (by kernel_rfl) (fun _ _ _ h => h) (by rfl) ?_ hHeld ?_
            rotate_left
            · (intro w hSw; (try dsimp only at hSw); go_simp; try with_reducible rfl)
            try simp only [Act.put, List.setIfInBounds_toArray, List.set_cons_zero, List.set_cons_succ]
            refine held_take 25 ?_ rfl (by kernel_rfl) (by kernel_rfl) (by kernel_rfl) (fun _ _ _ h => h) (by rfl) ?_ hHeld ?_
            rotate_left
            · (intro w hSw; (try dsimp only at hSw); go_simp; try with_reducible rfl)
            try simp only [Act.put, List.setIfInBounds_toArray, List.set_cons_zero, List.set_cons_succ]
            refine held_one 24 rfl (by kernel_rfl) (by rfl) (fun K hK => ?_)
            go_simp
            refine (writes_any _ hq8).mono ?_
            rintro e w' ⟨rfl, rfl⟩
            refine hK.out _ _ ?_ (fun hHeld2 => ?_)
            · (try dsimp only); (exact ⟨x2, x3⟩)
            clear hK K hHeld
            have hHeld := hHeld2
            clear hHeld2
            try simp only [Act.put, List.setIfInBounds_toArray, List.set_cons_zero, List.set_cons_succ]
            refine held_take 26 ?_ rfl (by kernel_rfl) (by kernel_rfl) (by kernel_rfl) (fun _ _ _ h => h) (by rfl) ?_ hHeld ?_
            rotate_left
            · (intro w hSw; (try dsimp only at hSw); go_simp; try with_reducible rfl)
            try simp only [Act.put, List.setIfInBounds_toArray, List.set_cons_zero, List.set_cons_succ]
            refine held_take 27 ?_ rfl (by kernel_rfl) (by kernel_rfl) (by kernel_rfl) (fun _ _ _ h => h) (by rfl) ?_ hHeld ?_
            rotate_left
            · (intro w hSw; (try dsimp only at hSw); go_simp; try with_reducible rfl)
            try simp only [Act.put, List.setIfInBounds_toArray, List.set_cons_zero, List.set_cons_succ]
            refine wpAnyH_done (by kernel_rfl) ?_ _
            clear hHeld
            go_wp2_with fail
            go_roundw
            case rel => unfold PlaysRel; exact ⟨k + 1, c6, by omega, by go_num, hc8, hr8, hB8, hok6, HL6.out, by omega, by omega⟩
            case measure => simp [intOf]; omega
    · go_wp2_with fail
      go_ret
      exact ⟨rfl, hB⟩
end Go.Proofs.YtmfdpjijpbgjbaaDoor
