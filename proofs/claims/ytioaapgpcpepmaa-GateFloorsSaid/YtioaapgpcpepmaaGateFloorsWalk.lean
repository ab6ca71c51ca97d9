/- GateFloors: the walk: whatever numbers come, the Go text returns true. -/
import Derived.Test.YtioaapgpcpepmaaGateFirst
namespace Go.Proofs.Ytioaapgpcpepmaa
open Go.RowKit
set_option linter.unusedSimpArgs false

theorem sl_one {w : World} {M : Nat} {x : Int} (h : Blk w M [.int .i64 x] 3) : Sl w (some ⟨M, 0, none⟩) ([x].map (Value.int .i64)) := .inr ⟨_, _, rfl, h.lt, fun k hk => by
  have hk0 : k = 0 := by simpa using hk
  subst hk0
  exact h.cell 0⟩

set_option maxRecDepth 100000 in
set_option maxHeartbeats 4000000 in
theorem gateFloors_walk (count founder hop car : Int) (w : World) (hc64 : count ≤ 9223372036854775807) (hc64' : -9223372036854775808 ≤ count) :
    Calls Try.prog 5 #[.int .i64 count, .int .i64 founder, .int .i64 hop, .int .i64 car] w (SaysTrue w) := by
  by_cases hlow : count < 1
  · go_enter Try.func5, Try.ntmps5
    go_wp2_with fail
    refine (first_any _).mono ?_
    rintro e w1 ⟨rfl, hB1⟩
    go_wp2
    go_ret
    exact ⟨rfl, hB1⟩
  by_cases hhigh : 4294967295 ≤ count
  · go_enter Try.func5, Try.ntmps5
    go_wp2_with fail
    refine (first_any _).mono ?_
    rintro e w1 ⟨rfl, hB1⟩
    go_wp2
    go_ret
    exact ⟨rfl, hB1⟩
  have hl1 : 1 ≤ count := by omega
  have hl2 : count < 4294967295 := by omega
  clear hlow hhigh
  go_enter Try.func5, Try.ntmps5
  go_wp2_with fail
  refine (first_any _).mono ?_
  rintro e w1 ⟨rfl, hB1⟩
  go_wp2_with fail
  refine (number_rng _ _ (by omega) (by omega) _).mono ?_
  rintro e w' ⟨fo, hf0, hf1, rfl, rfl⟩
  go_wp2_with fail
  refine (number_rng _ _ (by omega) (by omega) _).mono ?_
  rintro e w' ⟨ca, hca0, hca1, rfl, rfl⟩
  go_wp2_with fail
  refine (number_rng _ _ (by omega) (by omega) _).mono ?_
  rintro e w' ⟨hp, hh0, hh1, rfl, rfl⟩
  go_wp2_with fail
  obtain ⟨w2, hw2⟩ : ∃ w2, w2 = (w1.alloc (.cells #[.int .i64 ca] 3)).alloc (.cells #[.int .i64 count, .int .i64 fo, .int .i64 hp, .slice (some ⟨w1.heap.size, 0, none⟩) 1 1, .slice none 0 0] 32) := ⟨_, rfl⟩
  have hM2 : Blk w2 w1.heap.size [.int .i64 ca] 3 := by rw [hw2]; exact (Blk.new w1 _ _).alloc _
  have hR2 : Blk w2 (w1.heap.size + 1) [.int .i64 count, .int .i64 fo, .int .i64 hp, .slice (some ⟨w1.heap.size, 0, none⟩) 1 1, .slice none 0 0] 32 := by
    rw [hw2, show w1.heap.size + 1 = (w1.alloc (.cells #[.int .i64 ca] 3)).heap.size from by simp]; exact Blk.new _ _ _
  have hB2 : Below w.heap.size w w2 := by rw [hw2]; exact (hB1.alloc hB1.size _).alloc (Nat.le_trans hB1.size (by simp)) _
  have hz := hB1.size
  rw [← hw2]
  generalize w1.heap.size = M at *
  clear hw2 hB1
  refine (gateNew_any (count - 1) _).mono ?_
  rintro e w3 ⟨rfl, hG3, hb3, _⟩
  have hM3 := (Eff.of_below (S := fun _ => False) hb3).blk hM2 (fun h => h)
  have hR3 := (Eff.of_below (S := fun _ => False) hb3).blk hR2 (fun h => h)
  have hB3 := hB2.trans (hb3.mono hB2.size)
  have hRG := hR2.lt
  have hfl : max (count - 1) 0 = count - 1 := by omega
  rw [hfl] at hG3
  generalize w2.heap.size = G at *
  clear hM2 hR2 hB2 hb3 hfl
  have a0 : w3.cell? ⟨M + 1, 0, none⟩ = some (.int .i64 count) := hR3.cell 0
  have a1 : w3.cell? ⟨M + 1, 1, none⟩ = some (.int .i64 fo) := hR3.cell 1
  have a2 : w3.cell? ⟨M + 1, 2, none⟩ = some (.int .i64 hp) := hR3.cell 2
  have a3 : w3.cell? ⟨M + 1, 3, none⟩ = some (.slice (some ⟨M, 0, none⟩) 1 1) := hR3.cell 3
  have a4 : w3.cell? ⟨M + 1, 4, none⟩ = some (.slice none 0 0) := hR3.cell 4
  go_wp2_with fail
  clear a0 a1 a2 a3 a4
  have h1 : Gt.would (Gt.mk 0 0 0 (count - 1)) ca ca ⟨count, fo, hp, some ⟨M, 0, none⟩, [ca], 1, none, 0, 0⟩ = true := by
    simp [Gt.would, Gt.aboveB, validE, Gt.newer, lessE]; omega
  have h2 : (Gt.mk 0 0 0 (count - 1)).take ca ca ⟨count, fo, hp, some ⟨M, 0, none⟩, [ca], 1, none, 0, 0⟩ = ⟨count, fo, hp, count - 1⟩ := by rw [Gt.take, h1]; rfl
  have h3 : sameE 0 0 count fo = false := by simp [sameE]; omega
  have htk := take_any (Gt.mk 0 0 0 (count - 1)) ca ca ⟨count, fo, hp, some ⟨M, 0, none⟩, [ca], 1, none, 0, 0⟩ _ hG3 (sl_one hM3) (by simp)
  rw [h1, h2] at htk
  simp only [h3] at htk
  have htk2 : Calls Try.prog 11 _ w3 (TakesTo w3 G ⟨count, fo, hp, count - 1⟩ 54 Gt.cells true true) := htk
  refine htk2.mono ?_
  rintro e w4 ⟨rfl, hG4, hE4⟩
  have hM4 := hE4.blk hM3 (by omega)
  have hR4 := hE4.blk hR3 (by omega)
  have hB4 := hE4.below hB3 hB3.size (fun i hi => by omega)
  clear htk htk2 h1 h2 h3 hE4 hG3 hB3 hM3 hR3
  go_wp2_with fail
  refine (gateEpoch_any _ _ hG4).mono ?_
  rintro e w5 ⟨rfl, hb5⟩
  have hM5 := (Eff.of_below (S := fun _ => False) hb5).blk hM4 (fun h => h)
  have hR5 := (Eff.of_below (S := fun _ => False) hb5).blk hR4 (fun h => h)
  have hB5 := hB4.trans (hb5.mono hB4.size)
  have hGN := Nat.lt_of_lt_of_le hG4.lt hb5.size
  have hfl := field_count
  clear hM4 hR4 hB4 hb5 hG4
  go_wp2_with fail
  refine (gateNew_any count _).mono ?_
  rintro e w6 ⟨rfl, hN6, hb6, _⟩
  have hM6 := (Eff.of_below (S := fun _ => False) hb6).blk hM5 (fun h => h)
  have hR6 := (Eff.of_below (S := fun _ => False) hb6).blk hR5 (fun h => h)
  have hB6 := hB5.trans (hb6.mono hB5.size)
  have hcm : max count 0 = count := by omega
  rw [hcm] at hN6
  have hRN := hR5.lt
  generalize w5.heap.size = N at *
  clear hM5 hR5 hB5 hb6 hcm
  have a0 : w6.cell? ⟨M + 1, 0, none⟩ = some (.int .i64 count) := hR6.cell 0
  have a1 : w6.cell? ⟨M + 1, 1, none⟩ = some (.int .i64 fo) := hR6.cell 1
  have a2 : w6.cell? ⟨M + 1, 2, none⟩ = some (.int .i64 hp) := hR6.cell 2
  have a3 : w6.cell? ⟨M + 1, 3, none⟩ = some (.slice (some ⟨M, 0, none⟩) 1 1) := hR6.cell 3
  have a4 : w6.cell? ⟨M + 1, 4, none⟩ = some (.slice none 0 0) := hR6.cell 4
  go_wp2_with fail
  clear a0 a1 a2 a3 a4
  have h1 : Gt.would (Gt.mk 0 0 0 count) ca ca ⟨count, fo, hp, some ⟨M, 0, none⟩, [ca], 1, none, 0, 0⟩ = false := by
    simp [Gt.would, Gt.aboveB]
  have h2 : (Gt.mk 0 0 0 count).take ca ca ⟨count, fo, hp, some ⟨M, 0, none⟩, [ca], 1, none, 0, 0⟩ = ⟨0, 0, 0, count⟩ := by rw [Gt.take, h1]; rfl
  have htk := take_any (Gt.mk 0 0 0 count) ca ca ⟨count, fo, hp, some ⟨M, 0, none⟩, [ca], 1, none, 0, 0⟩ _ hN6 (sl_one hM6) (by simp)
  rw [h1, h2] at htk
  have htk2 : Calls Try.prog 11 _ w6 (TakesTo w6 N ⟨0, 0, 0, count⟩ 54 Gt.cells false false) := htk
  refine htk2.mono ?_
  rintro e w7 ⟨rfl, hN7, hE7⟩
  have hM7 := hE7.blk hM6 (by omega)
  have hR7 := hE7.blk hR6 (by omega)
  have hB7 := hE7.below hB6 hB6.size (fun i hi => by omega)
  clear htk htk2 h1 h2 hE7 hN6 hB6 hM6 hR6
  have a0 : w7.cell? ⟨M + 1, 0, none⟩ = some (.int .i64 count) := hR7.cell 0
  have a1 : w7.cell? ⟨M + 1, 1, none⟩ = some (.int .i64 fo) := hR7.cell 1
  go_wp2_with fail
  clear a0 a1
  have h1 : Gt.founds (Gt.mk 0 0 0 count) count fo = false := by simp [Gt.founds, Gt.aboveB]
  have h2 : Gt.found (Gt.mk 0 0 0 count) count fo = ⟨0, 0, 0, count⟩ := by rw [Gt.found, h1]; rfl
  have hfd := found_any (Gt.mk 0 0 0 count) count fo _ hN7
  rw [h1, h2] at hfd
  refine hfd.mono ?_
  rintro e w8 ⟨rfl, hN8, hE8⟩
  have hM8 := hE8.blk hM7 (by omega)
  have hR8 := hE8.blk hR7 (by omega)
  have hB8 := hE8.below hB7 hB7.size (fun i hi => by omega)
  clear hfd h1 h2 hE8 hN7 hB7 hM7 hR7
  go_wp2_with fail
  have h1 : Gt.founds (Gt.mk 0 0 0 count) count 15 = false := by simp [Gt.founds, Gt.aboveB]
  have h2 : Gt.found (Gt.mk 0 0 0 count) count 15 = ⟨0, 0, 0, count⟩ := by rw [Gt.found, h1]; rfl
  have hfd := found_any (Gt.mk 0 0 0 count) count 15 _ hN8
  rw [h1, h2] at hfd
  refine hfd.mono ?_
  rintro e w9 ⟨rfl, hN9, hE9⟩
  have hM9 := hE9.blk hM8 (by omega)
  have hR9 := hE9.blk hR8 (by omega)
  have hB9 := hE9.below hB8 hB8.size (fun i hi => by omega)
  clear hfd h1 h2 hE9 hN8 hB8 hM8 hR8
  have a0 : w9.cell? ⟨M + 1, 0, none⟩ = some (.int .i64 count) := hR9.cell 0
  have a1 : w9.cell? ⟨M + 1, 1, none⟩ = some (.int .i64 fo) := hR9.cell 1
  have a2 : w9.cell? ⟨M + 1, 2, none⟩ = some (.int .i64 hp) := hR9.cell 2
  have a3 : w9.cell? ⟨M + 1, 3, none⟩ = some (.slice (some ⟨M, 0, none⟩) 1 1) := hR9.cell 3
  have a4 : w9.cell? ⟨M + 1, 4, none⟩ = some (.slice none 0 0) := hR9.cell 4
  have f0 := hR9.frozen 0
  have hM10 := hM9.set_ne (b' := M + 1) (by omega) 0 none (.int .i64 (count + 1))
  have hN10 := hN9.set_ne (b' := M + 1) (by omega) 0 none (.int .i64 (count + 1))
  have hB10 := hB9.setCell (p := ⟨M + 1, 0, none⟩) (by simp; omega) (.int .i64 (count + 1))
  go_wp2_with fail
  generalize w9.setCell ⟨M + 1, 0, none⟩ (.int .i64 (count + 1)) = w10 at *
  clear a0 a1 a2 a3 a4 f0 hM9 hN9 hR9 hB9
  have h1 : Gt.would (Gt.mk 0 0 0 count) ca ca ⟨count + 1, fo, hp, some ⟨M, 0, none⟩, [ca], 1, none, 0, 0⟩ = true := by
    simp [Gt.would, Gt.aboveB, validE, Gt.newer, lessE]; omega
  have hwd := would_any (Gt.mk 0 0 0 count) ca ca ⟨count + 1, fo, hp, some ⟨M, 0, none⟩, [ca], 1, none, 0, 0⟩ _ hN10 (sl_one hM10) (by simp)
  rw [h1] at hwd
  refine hwd.mono ?_
  rintro e w11 ⟨rfl, hb11⟩
  have hN11 := (Eff.of_below (S := fun _ => False) hb11).blk hN10 (fun h => h)
  have hB11 := hB10.trans (hb11.mono hB10.size)
  clear hwd h1 hb11 hN10 hB10 hM10
  go_wp2_with fail
  refine (gateFloor_any _ _ hN11).mono ?_
  rintro e w' ⟨rfl, rfl⟩
  go_wp2_with fail
  refine (gateEpoch_any _ _ hN11).mono ?_
  rintro e w12 ⟨rfl, hb12⟩
  go_wp2
  go_ret
  exact ⟨rfl, hB11.trans (hb12.mono hB11.size)⟩
end Go.Proofs.Ytioaapgpcpepmaa
