/- StoreFalls: the walk. -/
import Derived.Test.YtmfdpjijpbgjbaaDoorStoreFirst
namespace Go.Proofs.YtmfdpjijpbgjbaaDoor
open Go.RowKit
set_option linter.unusedSimpArgs false

theorem mod_nat (a b : Int) (hb : 0 < b) : ∃ m : Nat, a % b = m ∧ (m : Int) < b := ⟨(a % b).toNat, by have := Int.emod_nonneg a (show b ≠ 0 by omega); omega, by have := Int.emod_nonneg a (show b ≠ 0 by omega); have := Int.emod_lt_of_pos a hb; omega⟩
theorem Eff.of3 {W w w' : World} {b g s : Nat} {c : Cl} {a : (Int × Int) × Int} (_h : St W w b g s c a) (he : Eff (At3 b g s) w w') {t : Nat} {cs : List Value} {E : TypeId} (ht : Blk w t cs E) (hn : t ≠ b ∧ t ≠ g ∧ t ≠ s) : Blk w' t cs E :=
  he.blk ht (fun q => by rcases q with q | q | q <;> omega)
theorem St.lt {W w : World} {b g s : Nat} {c : Cl} {a : (Int × Int) × Int} (h : St W w b g s c a) : b < w.heap.size ∧ g < w.heap.size ∧ s < w.heap.size := ⟨h.cell.lt.1, h.cell.lt.2, h.store.lt⟩
set_option maxRecDepth 100000 in
set_option maxHeartbeats 4000000 in
theorem storeFalls_walk {ad : Int → Addr} (a0 a1 a2 a3 : Int) (w : World) (hE : Errs4 ad w) :
    Calls Tryd.prog 7 #[.int .i64 a0, .int .i64 a1, .int .i64 a2, .int .i64 a3] w (SaysTrue w) := by
  obtain ⟨m0, h0, l0⟩ := mod_nat a0 100 (by omega)
  obtain ⟨m1, h1, l1⟩ := mod_nat a1 100 (by omega)
  obtain ⟨m2, h2, l2⟩ := mod_nat a2 100 (by omega)
  obtain ⟨m3, h3, l3⟩ := mod_nat a3 100 (by omega)
  have n0 : ∀ w, _ := fun w => number_any a0 100 (by omega) (by omega) w
  have n1 : ∀ w, _ := fun w => number_any a1 100 (by omega) (by omega) w
  have n2 : ∀ w, _ := fun w => number_any a2 100 (by omega) (by omega) w
  have n3 : ∀ w, _ := fun w => number_any a3 100 (by omega) (by omega) w
  rw [h0] at n0
  rw [h1] at n1
  rw [h2] at n2
  rw [h3] at n3
  clear h0 h1 h2 h3
  go_enter Tryd.func7, Tryd.ntmps7
  go_wp2_with fail
  refine (first3_any w hE).mono ?_
  rintro e w1 ⟨rfl, hB1⟩
  go_wp2_with fail
  refine (opened_any w1 hE hB1).mono ?_
  rintro e w2 ⟨s, b, g, rfl, hS2, _⟩
  clear hB1
  go_wp2_with fail
  refine (n0 _).mono ?_
  rintro e w' ⟨rfl, rfl⟩
  go_wp2_with fail
  refine (n1 _).mono ?_
  rintro e w' ⟨rfl, rfl⟩
  go_wp2_with fail
  refine (n2 _).mono ?_
  rintro e w' ⟨rfl, rfl⟩
  go_wp2_with fail
  refine (n3 _).mono ?_
  rintro e w' ⟨rfl, rfl⟩
  go_wp2_with fail
  have hb3 : Below w2.heap.size w2 ((w2.alloc (.cells #[.int .i64 (m0 + 1), .int .i64 m1] 59)).alloc (.cells #[.int .i64 m2, .int .i64 m3] 59)) := ((Below.refl _ _).alloc (Nat.le_refl _) _).alloc (by simp) _
  have hx3 := (Blk.new w2 [.int .i64 (m0 + 1), .int .i64 m1] 59).alloc (.cells #[.int .i64 m2, .int .i64 m3] 59)
  have hy3 := Blk.new (w2.alloc (.cells #[.int .i64 (m0 + 1), .int .i64 m1] 59)) [.int .i64 m2, .int .i64 m3] 59
  rw [show (w2.alloc (.cells #[.int .i64 (m0 + 1), .int .i64 m1] 59)).heap.size = w2.heap.size + 1 from by simp] at hy3
  have hx3 : Blk ((w2.alloc (.cells #[.int .i64 (m0 + 1), .int .i64 m1] 59)).alloc (.cells #[.int .i64 m2, .int .i64 m3] 59)) w2.heap.size [.int .i64 (m0 + 1), .int .i64 m1] 59 := hx3
  have hy3 : Blk ((w2.alloc (.cells #[.int .i64 (m0 + 1), .int .i64 m1] 59)).alloc (.cells #[.int .i64 m2, .int .i64 m3] 59)) (w2.heap.size + 1) [.int .i64 m2, .int .i64 m3] 59 := hy3
  have hS3 := hS2.on hb3
  have hlt := hS2.lt
  clear hS2 n0 n1 n2 n3 hb3
  generalize (w2.alloc (.cells #[.int .i64 (m0 + 1), .int .i64 m1] 59)).alloc (.cells #[.int .i64 m2, .int .i64 m3] 59) = w3 at *
  generalize w2.heap.size = t at *
  have hv := st_save hE hS3 rfl ((m0 : Int) + 1, (m1 : Int)) (by
    unfold badE
    rw [if_neg (by simp only; omega), if_neg (by simp only [Prod.mk.injEq]; omega)]) (by decide)
  go_wp2_with fail
  refine hv.mono ?_
  rintro e w4 ⟨rfl, hS4, he4⟩
  rw [errV_zero]
  have hx4 := Eff.of3 hS3 he4 hx3 (by omega)
  have hy4 := Eff.of3 hS3 he4 hy3 (by omega)
  have hlt4 := hS4.lt
  have x0 : w4.cell? ⟨t, 0, none⟩ = some (.int .i64 (m0 + 1)) := hx4.cell 0
  have x1 : w4.cell? ⟨t, 1, none⟩ = some (.int .i64 m1) := hx4.cell 1
  have y0 : w4.cell? ⟨t + 1, 0, none⟩ = some (.int .i64 m2) := hy4.cell 0
  have y1 : w4.cell? ⟨t + 1, 1, none⟩ = some (.int .i64 m3) := hy4.cell 1
  have htl : t < w4.heap.size := hx4.lt
  have htl1 : t + 1 < w4.heap.size := hy4.lt
  clear hv hx3 hy3 hS3 he4
  have HXY := hid (And.intro hx4 hy4)
  clear hx4 hy4
  by_cases hup : (m0 : Int) + 1 ≤ m2 ∧ (m1 : Int) ≤ m3 ∧ ¬ ((m2 : Int) = m0 + 1 ∧ (m3 : Int) = m1)
  · have hbd : badE ((m0 : Int) + 1, (m1 : Int)) ((m2 : Int), (m3 : Int)) = 0 := by
      unfold badE
      rw [if_neg (by simp only; omega), if_neg (by simp only [Prod.mk.injEq]; omega)]
    have hv := st_save hE hS4 rfl ((m2 : Int), (m3 : Int)) hbd (by simp [Cl.kept, Cl.new])
    obtain ⟨u1, u2, u3⟩ := hup
    clear hbd
    go_wp2_with fail
    refine hv.mono ?_
    rintro e w5 ⟨rfl, hS5, he5⟩
    rw [errV_zero]
    have hx5 := Eff.of3 hS4 he5 HXY.out.1 (by omega)
    have hy5 := Eff.of3 hS4 he5 HXY.out.2 (by omega)
    have x0 : w5.cell? ⟨t, 0, none⟩ = some (.int .i64 (m0 + 1)) := hx5.cell 0
    have x1 : w5.cell? ⟨t, 1, none⟩ = some (.int .i64 m1) := hx5.cell 1
    have y0 : w5.cell? ⟨t + 1, 0, none⟩ = some (.int .i64 m2) := hy5.cell 0
    have y1 : w5.cell? ⟨t + 1, 1, none⟩ = some (.int .i64 m3) := hy5.cell 1
    have hsm := sameR_any ((m0 : Int) + 1, (m1 : Int)) ((m2 : Int), (m3 : Int)) w5
    have hne : decide (((m0 : Int) + 1, (m1 : Int)) = ((m2 : Int), (m3 : Int))) = false := by
      simp only [decide_eq_false_iff_not, Prod.mk.injEq]; omega
    rw [hne] at hsm
    clear hv hS4 hne
    go_wp2_with fail
    refine hsm.mono ?_
    rintro e w6 ⟨rfl, hb6⟩
    have hS6 : St w w6 b g s _ _ := hS5.on hb6
    have hy6 := (Eff.of_below (S := fun _ => False) hb6).blk hy5 (fun h => h)
    clear hsm hS5 hx5 hy5 hb6 x0 x1 y0 y1
    go_wp2_with fail
    have hS7 : St w (_root_.Go.World.drew w6) b g s _ _ := hS6.on ((Below.refl _ _).drew)
    have y0 : (_root_.Go.World.drew w6).cell? ⟨t + 1, 0, none⟩ = some (.int .i64 m2) := hy6.cell 0
    have y1 : (_root_.Go.World.drew w6).cell? ⟨t + 1, 1, none⟩ = some (.int .i64 m3) := hy6.cell 1
    have ht7 : t + 1 < (_root_.Go.World.drew w6).heap.size := hy6.lt
    refine wp_region_held_drew (S := fun w' => w'.cell? ⟨t + 1, 0, none⟩ = some (.int .i64 m2) ∧ w'.cell? ⟨t + 1, 1, none⟩ = some (.int .i64 m3)) (by kernel_rfl) ?_ (fun hHeld => ?_)
    · (try dsimp only); (first | exact ⟨y0, y1⟩ | exact ⟨z0, z1⟩ | exact ⟨(hb9.cell (p := ⟨t + 1, 0, none⟩) ht8).trans z0, (hb9.cell (p := ⟨t + 1, 1, none⟩) ht8).trans z1⟩)
    refine held_take 0 ?_ rfl (by kernel_rfl) (by kernel_rfl) (by kernel_rfl) (fun _ _ _ h => h) (by rfl) ?_ hHeld ?_
    rotate_left
    · (intro w hSw; (try dsimp only at hSw); go_simp; try with_reducible rfl)
    try simp only [Act.put, List.setIfInBounds_toArray, List.set_cons_zero, List.set_cons_succ]
    refine held_take 1 ?_ rfl (by kernel_rfl) (by kernel_rfl) (by kernel_rfl) (fun _ _ _ h => h) (by rfl) ?_ hHeld ?_
    rotate_left
    · (intro w hSw; (try dsimp only at hSw); go_simp; try with_reducible rfl)
    try simp only [Act.put, List.setIfInBounds_toArray, List.set_cons_zero, List.set_cons_succ]
    refine held_take 2 ?_ rfl (by kernel_rfl) (by kernel_rfl) (by kernel_rfl) (fun _ _ _ h => h) (by rfl) ?_ hHeld ?_
    rotate_left
    · (intro w hSw; (try dsimp only at hSw); go_simp; try with_reducible rfl)
    try simp only [Act.put, List.setIfInBounds_toArray, List.set_cons_zero, List.set_cons_succ]
    refine held_take 3 ?_ rfl (by kernel_rfl) (by kernel_rfl) (by kernel_rfl) (fun _ _ _ h => h) (by rfl) ?_ hHeld ?_
    rotate_left
    · (intro w hSw; (try dsimp only at hSw); go_simp; try with_reducible rfl)
    try simp only [Act.put, List.setIfInBounds_toArray, List.set_cons_zero, List.set_cons_succ]
    refine held_take 4 ?_ rfl (by kernel_rfl) (by kernel_rfl) (by kernel_rfl) (fun _ _ _ h => h) (by rfl) ?_ hHeld ?_
    rotate_left
    · (intro w hSw; (try dsimp only at hSw); go_simp; try with_reducible rfl)
    try simp only [Act.put, List.setIfInBounds_toArray, List.set_cons_zero, List.set_cons_succ]
    refine held_take 5 ?_ rfl (by kernel_rfl) (by kernel_rfl) (by kernel_rfl) (fun _ _ _ h => h) (by rfl) ?_ hHeld ?_
    rotate_left
    · (intro w hSw; (try dsimp only at hSw); go_simp; try with_reducible rfl)
    try simp only [Act.put, List.setIfInBounds_toArray, List.set_cons_zero, List.set_cons_succ]
    refine held_take 6 ?_ rfl (by kernel_rfl) (by kernel_rfl) (by kernel_rfl) (fun _ _ _ h => h) (by rfl) ?_ hHeld ?_
    rotate_left
    · (intro w hSw; (try dsimp only at hSw); go_simp; try with_reducible rfl)
    try simp only [Act.put, List.setIfInBounds_toArray, List.set_cons_zero, List.set_cons_succ]
    refine held_take 7 ?_ rfl (by kernel_rfl) (by kernel_rfl) (by kernel_rfl) (fun _ _ _ h => h) (by rfl) ?_ hHeld ?_
    rotate_left
    · (intro w hSw; (try dsimp only at hSw); go_simp; try with_reducible rfl)
    try simp only [Act.put, List.setIfInBounds_toArray, List.set_cons_zero, List.set_cons_succ]
    refine held_take 8 ?_ rfl (by kernel_rfl) (by kernel_rfl) (by kernel_rfl) (fun _ _ _ h => h) (by rfl) ?_ hHeld ?_
    rotate_left
    · (intro w hSw; (try dsimp only at hSw); go_simp; try with_reducible rfl)
    try simp only [Act.put, List.setIfInBounds_toArray, List.set_cons_zero, List.set_cons_succ]
    refine held_take 9 ?_ rfl (by kernel_rfl) (by kernel_rfl) (by kernel_rfl) (fun _ _ _ h => h) (by rfl) ?_ hHeld ?_
    rotate_left
    · (intro w hSw; (try dsimp only at hSw); go_simp; try with_reducible rfl)
    try simp only [Act.put, List.setIfInBounds_toArray, List.set_cons_zero, List.set_cons_succ]
    refine held_take 10 ?_ rfl (by kernel_rfl) (by kernel_rfl) (by kernel_rfl) (fun _ _ _ h => h) (by rfl) ?_ hHeld ?_
    rotate_left
    · (intro w hSw; (try dsimp only at hSw); go_simp; try with_reducible rfl)
    try simp only [Act.put, List.setIfInBounds_toArray, List.set_cons_zero, List.set_cons_succ]
    refine held_take 12 ?_ rfl (by kernel_rfl) (by kernel_rfl) (by kernel_rfl) (fun _ _ _ h => h) (by rfl) ?_ hHeld ?_
    rotate_left
    · (intro w hSw; (try dsimp only at hSw); go_simp; try with_reducible rfl)
    try simp only [Act.put, List.setIfInBounds_toArray, List.set_cons_zero, List.set_cons_succ]
    refine held_one 11 rfl (by kernel_rfl) (by rfl) (fun K hK => ?_)
    go_simp
    refine (record_any _ hS7.store).mono ?_
    rintro e w8 ⟨rfl, hb8⟩
    have hS8 : St w w8 b g s _ _ := hS7.on hb8
    have z0 := (hb8.cell (p := ⟨t + 1, 0, none⟩) ht7).trans y0
    have z1 := (hb8.cell (p := ⟨t + 1, 1, none⟩) ht7).trans y1
    have ht8 : t + 1 < w8.heap.size := Nat.lt_of_lt_of_le ht7 hb8.size
    have hsm := sameR_any ((m2 : Int), (m3 : Int)) ((m2 : Int), (m3 : Int)) w8
    rw [show decide (((m2 : Int), (m3 : Int)) = ((m2 : Int), (m3 : Int))) = true from by simp] at hsm
    refine hK.out _ _ ?_ (fun hHeld2 => ?_)
    · (try dsimp only); (first | exact ⟨y0, y1⟩ | exact ⟨z0, z1⟩ | exact ⟨(hb9.cell (p := ⟨t + 1, 0, none⟩) ht8).trans z0, (hb9.cell (p := ⟨t + 1, 1, none⟩) ht8).trans z1⟩)
    clear hK K hHeld
    have hHeld := hHeld2
    clear hHeld2
    try simp only [Act.put, List.setIfInBounds_toArray, List.set_cons_zero, List.set_cons_succ]
    refine held_one 13 rfl (by kernel_rfl) (by rfl) (fun K hK => ?_)
    go_simp
    refine hsm.mono ?_
    rintro e w9 ⟨rfl, hb9⟩
    have hB9 := hS8.below.trans (hb9.mono hS8.below.size)
    refine hK.out _ _ ?_ (fun hHeld2 => ?_)
    · (try dsimp only); (first | exact ⟨y0, y1⟩ | exact ⟨z0, z1⟩ | exact ⟨(hb9.cell (p := ⟨t + 1, 0, none⟩) ht8).trans z0, (hb9.cell (p := ⟨t + 1, 1, none⟩) ht8).trans z1⟩)
    clear hK K hHeld
    have hHeld := hHeld2
    clear hHeld2
    try simp only [Act.put, List.setIfInBounds_toArray, List.set_cons_zero, List.set_cons_succ]
    refine held_take 14 ?_ rfl (by kernel_rfl) (by kernel_rfl) (by kernel_rfl) (fun _ _ _ h => h) (by rfl) ?_ hHeld ?_
    rotate_left
    · (intro w hSw; (try dsimp only at hSw); go_simp; try with_reducible rfl)
    try simp only [Act.put, List.setIfInBounds_toArray, List.set_cons_zero, List.set_cons_succ]
    refine held_take 15 ?_ rfl (by kernel_rfl) (by kernel_rfl) (by kernel_rfl) (fun _ _ _ h => h) (by rfl) ?_ hHeld ?_
    rotate_left
    · (intro w hSw; (try dsimp only at hSw); go_simp; try with_reducible rfl)
    try simp only [Act.put, List.setIfInBounds_toArray, List.set_cons_zero, List.set_cons_succ]
    refine held_skip 16 rfl (by kernel_rfl) (by kernel_rfl) (by kernel_rfl) (fun _ _ _ h => h) (by rfl) hHeld ?_
    try simp only [Act.put, List.setIfInBounds_toArray, List.set_cons_zero, List.set_cons_succ]
    refine held_skip 17 rfl (by kernel_rfl) (by kernel_rfl) (by kernel_rfl) (fun _ _ _ h => h) (by rfl) hHeld ?_
    try simp only [Act.put, List.setIfInBounds_toArray, List.set_cons_zero, List.set_cons_succ]
    refine held_skip 18 rfl (by kernel_rfl) (by kernel_rfl) (by kernel_rfl) (fun _ _ _ h => h) (by rfl) hHeld ?_
    try simp only [Act.put, List.setIfInBounds_toArray, List.set_cons_zero, List.set_cons_succ]
    refine held_skip 19 rfl (by kernel_rfl) (by kernel_rfl) (by kernel_rfl) (fun _ _ _ h => h) (by rfl) hHeld ?_
    try simp only [Act.put, List.setIfInBounds_toArray, List.set_cons_zero, List.set_cons_succ]
    refine held_skip 20 rfl (by kernel_rfl) (by kernel_rfl) (by kernel_rfl) (fun _ _ _ h => h) (by rfl) hHeld ?_
    try simp only [Act.put, List.setIfInBounds_toArray, List.set_cons_zero, List.set_cons_succ]
    refine held_skip 21 rfl (by kernel_rfl) (by kernel_rfl) (by kernel_rfl) (fun _ _ _ h => h) (by rfl) hHeld ?_
    try simp only [Act.put, List.setIfInBounds_toArray, List.set_cons_zero, List.set_cons_succ]
    refine held_skip 22 rfl (by kernel_rfl) (by kernel_rfl) (by kernel_rfl) (fun _ _ _ h => h) (by rfl) hHeld ?_
    try simp only [Act.put, List.setIfInBounds_toArray, List.set_cons_zero, List.set_cons_succ]
    refine held_skip 23 rfl (by kernel_rfl) (by kernel_rfl) (by kernel_rfl) (fun _ _ _ h => h) (by rfl) hHeld ?_
    try simp only [Act.put, List.setIfInBounds_toArray, List.set_cons_zero, List.set_cons_succ]
    refine held_take 24 ?_ rfl (by kernel_rfl) (by kernel_rfl) (by kernel_rfl) (fun _ _ _ h => h) (by rfl) ?_ hHeld ?_
    rotate_left
    · (intro w hSw; (try dsimp only at hSw); go_simp; try with_reducible rfl)
    try simp only [Act.put, List.setIfInBounds_toArray, List.set_cons_zero, List.set_cons_succ]
    refine held_take 25 ?_ rfl (by kernel_rfl) (by kernel_rfl) (by kernel_rfl) (fun _ _ _ h => h) (by rfl) ?_ hHeld ?_
    rotate_left
    · (intro w hSw; (try dsimp only at hSw); go_simp; try with_reducible rfl)
    try simp only [Act.put, List.setIfInBounds_toArray, List.set_cons_zero, List.set_cons_succ]
    refine held_take 26 ?_ rfl (by kernel_rfl) (by kernel_rfl) (by kernel_rfl) (fun _ _ _ h => h) (by rfl) ?_ hHeld ?_
    rotate_left
    · (intro w hSw; (try dsimp only at hSw); go_simp; try with_reducible rfl)
    try simp only [Act.put, List.setIfInBounds_toArray, List.set_cons_zero, List.set_cons_succ]
    refine wpAnyH_done (by kernel_rfl) ?_ _
    clear hHeld
    go_wp2_with fail
    go_ret
    exact ⟨rfl, hB9⟩
  · have hbd : badE ((m0 : Int) + 1, (m1 : Int)) ((m2 : Int), (m3 : Int)) = 108 := by
      unfold badE
      rw [if_neg (by simp only; omega), if_pos (by simp only [Prod.mk.injEq]; omega)]
    have hv := st_bad hE hS4 ((m2 : Int), (m3 : Int)) (by rw [hbd]; decide)
    rw [hbd] at hv
    have hcut2 : (m2 : Int) < m0 + 1 ∨ ((m0 : Int) + 1 ≤ m2 ∧ (m3 : Int) < m1) ∨ ((m2 : Int) = m0 + 1 ∧ (m3 : Int) = m1) := by omega
    clear hbd hup
    have HC := hid hcut2
    clear hcut2
    go_wp2_with fail
    refine hv.mono ?_
    rintro e w5 ⟨rfl, hS5, he5⟩
    rw [errV_ne ad (by decide)]
    have hx5 := Eff.of3 hS4 he5 HXY.out.1 (by omega)
    have hy5 := Eff.of3 hS4 he5 HXY.out.2 (by omega)
    clear hv hS4 x0 x1 y0 y1
    have x0 : w5.cell? ⟨t, 0, none⟩ = some (.int .i64 (m0 + 1)) := hx5.cell 0
    have x1 : w5.cell? ⟨t, 1, none⟩ = some (.int .i64 m1) := hx5.cell 1
    have y0 : w5.cell? ⟨t + 1, 0, none⟩ = some (.int .i64 m2) := hy5.cell 0
    have y1 : w5.cell? ⟨t + 1, 1, none⟩ = some (.int .i64 m3) := hy5.cell 1
    go_upto_region 12 with (fail)
    go_cut [15] (fun v wx => v = .bool false ∧ Below w5.heap.size w5 wx)
    case first =>
      rcases HC.out with u1 | ⟨u1, u2⟩ | ⟨u1, u2⟩
      · go_wp2_with fail
        go_meet
        exact ⟨rfl, Below.refl _ _⟩
      · go_wp2_with fail
        go_meet
        exact ⟨rfl, Below.refl _ _⟩
      · have hsm := sameR_any ((m0 : Int) + 1, (m1 : Int)) ((m2 : Int), (m3 : Int)) w5
        rw [show decide (((m0 : Int) + 1, (m1 : Int)) = ((m2 : Int), (m3 : Int))) = true from by simp only [decide_eq_true_eq, Prod.mk.injEq]; omega] at hsm
        have v1 : (m0 : Int) + 1 ≤ m2 := by omega
        have v2 : (m1 : Int) ≤ m3 := by omega
        clear u1 u2
        go_wp2_with fail
        refine hsm.mono ?_
        rintro e w6 ⟨rfl, hb6⟩
        clear hsm
        go_wp2_with fail
        go_meet
        exact ⟨rfl, hb6⟩
    case rest =>
      obtain ⟨rfl, hb6⟩ := hcut
      have hS6 : St w _ b g s _ _ := hS5.on hb6
      have hx6 := (Eff.of_below (S := fun _ => False) hb6).blk hx5 (fun h => h)
      clear hS5 hx5 hy5 hb6 x0 x1 y0 y1 he5
      go_wp2_with fail
      have hS7 : St w (_root_.Go.World.drew _) b g s _ _ := hS6.on ((Below.refl _ _).drew)
      have y0 : (_root_.Go.World.drew _).cell? ⟨t, 0, none⟩ = some (.int .i64 (m0 + 1)) := hx6.cell 0
      have y1 : (_root_.Go.World.drew _).cell? ⟨t, 1, none⟩ = some (.int .i64 m1) := hx6.cell 1
      have ht7 : t < (_root_.Go.World.drew _).heap.size := hx6.lt
      refine wp_region_held_drew (S := fun w' => w'.cell? ⟨t, 0, none⟩ = some (.int .i64 (m0 + 1)) ∧ w'.cell? ⟨t, 1, none⟩ = some (.int .i64 m1)) (by kernel_rfl) ?_ (fun hHeld => ?_)
      · (try dsimp only); (first | exact ⟨y0, y1⟩ | exact ⟨z0, z1⟩ | exact ⟨(hb9.cell (p := ⟨t, 0, none⟩) ht8).trans z0, (hb9.cell (p := ⟨t, 1, none⟩) ht8).trans z1⟩)
      refine held_take 0 ?_ rfl (by kernel_rfl) (by kernel_rfl) (by kernel_rfl) (fun _ _ _ h => h) (by rfl) ?_ hHeld ?_
      rotate_left
      · (intro w hSw; (try dsimp only at hSw); go_simp; try with_reducible rfl)
      try simp only [Act.put, List.setIfInBounds_toArray, List.set_cons_zero, List.set_cons_succ]
      refine held_take 1 ?_ rfl (by kernel_rfl) (by kernel_rfl) (by kernel_rfl) (fun _ _ _ h => h) (by rfl) ?_ hHeld ?_
      rotate_left
      · (intro w hSw; (try dsimp only at hSw); go_simp; try with_reducible rfl)
      try simp only [Act.put, List.setIfInBounds_toArray, List.set_cons_zero, List.set_cons_succ]
      refine held_take 2 ?_ rfl (by kernel_rfl) (by kernel_rfl) (by kernel_rfl) (fun _ _ _ h => h) (by rfl) ?_ hHeld ?_
      rotate_left
      · (intro w hSw; (try dsimp only at hSw); go_simp; try with_reducible rfl)
      try simp only [Act.put, List.setIfInBounds_toArray, List.set_cons_zero, List.set_cons_succ]
      refine held_take 3 ?_ rfl (by kernel_rfl) (by kernel_rfl) (by kernel_rfl) (fun _ _ _ h => h) (by rfl) ?_ hHeld ?_
      rotate_left
      · (intro w hSw; (try dsimp only at hSw); go_simp; try with_reducible rfl)
      try simp only [Act.put, List.setIfInBounds_toArray, List.set_cons_zero, List.set_cons_succ]
      refine held_take 4 ?_ rfl (by kernel_rfl) (by kernel_rfl) (by kernel_rfl) (fun _ _ _ h => h) (by rfl) ?_ hHeld ?_
      rotate_left
      · (intro w hSw; (try dsimp only at hSw); go_simp; try with_reducible rfl)
      try simp only [Act.put, List.setIfInBounds_toArray, List.set_cons_zero, List.set_cons_succ]
      refine held_take 5 ?_ rfl (by kernel_rfl) (by kernel_rfl) (by kernel_rfl) (fun _ _ _ h => h) (by rfl) ?_ hHeld ?_
      rotate_left
      · (intro w hSw; (try dsimp only at hSw); go_simp; try with_reducible rfl)
      try simp only [Act.put, List.setIfInBounds_toArray, List.set_cons_zero, List.set_cons_succ]
      refine held_take 6 ?_ rfl (by kernel_rfl) (by kernel_rfl) (by kernel_rfl) (fun _ _ _ h => h) (by rfl) ?_ hHeld ?_
      rotate_left
      · (intro w hSw; (try dsimp only at hSw); go_simp; try with_reducible rfl)
      try simp only [Act.put, List.setIfInBounds_toArray, List.set_cons_zero, List.set_cons_succ]
      refine held_take 7 ?_ rfl (by kernel_rfl) (by kernel_rfl) (by kernel_rfl) (fun _ _ _ h => h) (by rfl) ?_ hHeld ?_
      rotate_left
      · (intro w hSw; (try dsimp only at hSw); go_simp; try with_reducible rfl)
      try simp only [Act.put, List.setIfInBounds_toArray, List.set_cons_zero, List.set_cons_succ]
      refine held_take 8 ?_ rfl (by kernel_rfl) (by kernel_rfl) (by kernel_rfl) (fun _ _ _ h => h) (by rfl) ?_ hHeld ?_
      rotate_left
      · (intro w hSw; (try dsimp only at hSw); go_simp; try with_reducible rfl)
      try simp only [Act.put, List.setIfInBounds_toArray, List.set_cons_zero, List.set_cons_succ]
      refine held_take 9 ?_ rfl (by kernel_rfl) (by kernel_rfl) (by kernel_rfl) (fun _ _ _ h => h) (by rfl) ?_ hHeld ?_
      rotate_left
      · (intro w hSw; (try dsimp only at hSw); go_simp; try with_reducible rfl)
      try simp only [Act.put, List.setIfInBounds_toArray, List.set_cons_zero, List.set_cons_succ]
      refine held_skip 10 rfl (by kernel_rfl) (by kernel_rfl) (by kernel_rfl) (fun _ _ _ h => h) (by rfl) hHeld ?_
      try simp only [Act.put, List.setIfInBounds_toArray, List.set_cons_zero, List.set_cons_succ]
      refine held_skip 11 rfl (by kernel_rfl) (by kernel_rfl) (by kernel_rfl) (fun _ _ _ h => h) (by rfl) hHeld ?_
      try simp only [Act.put, List.setIfInBounds_toArray, List.set_cons_zero, List.set_cons_succ]
      refine held_skip 12 rfl (by kernel_rfl) (by kernel_rfl) (by kernel_rfl) (fun _ _ _ h => h) (by rfl) hHeld ?_
      try simp only [Act.put, List.setIfInBounds_toArray, List.set_cons_zero, List.set_cons_succ]
      refine held_skip 13 rfl (by kernel_rfl) (by kernel_rfl) (by kernel_rfl) (fun _ _ _ h => h) (by rfl) hHeld ?_
      try simp only [Act.put, List.setIfInBounds_toArray, List.set_cons_zero, List.set_cons_succ]
      refine held_take 14 ?_ rfl (by kernel_rfl) (by kernel_rfl) (by kernel_rfl) (fun _ _ _ h => h) (by rfl) ?_ hHeld ?_
      rotate_left
      · (intro w hSw; (try dsimp only at hSw); go_simp; try with_reducible rfl)
      try simp only [Act.put, List.setIfInBounds_toArray, List.set_cons_zero, List.set_cons_succ]
      refine held_take 15 ?_ rfl (by kernel_rfl) (by kernel_rfl) (by kernel_rfl) (fun _ _ _ h => h) (by rfl) ?_ hHeld ?_
      rotate_left
      · (intro w hSw; (try dsimp only at hSw); go_simp; try with_reducible rfl)
      try simp only [Act.put, List.setIfInBounds_toArray, List.set_cons_zero, List.set_cons_succ]
      refine held_take 16 ?_ rfl (by kernel_rfl) (by kernel_rfl) (by kernel_rfl) (fun _ _ _ h => h) (by rfl) ?_ hHeld ?_
      rotate_left
      · (intro w hSw; (try dsimp only at hSw); go_simp; try with_reducible rfl)
      try simp only [Act.put, List.setIfInBounds_toArray, List.set_cons_zero, List.set_cons_succ]
      refine held_take 17 ?_ rfl (by kernel_rfl) (by kernel_rfl) (by kernel_rfl) (fun _ _ _ h => h) (by rfl) ?_ hHeld ?_
      rotate_left
      · (intro w hSw; (try dsimp only at hSw); go_simp; try with_reducible rfl)
      try simp only [Act.put, List.setIfInBounds_toArray, List.set_cons_zero, List.set_cons_succ]
      refine held_take 18 ?_ rfl (by kernel_rfl) (by kernel_rfl) (by kernel_rfl) (fun _ _ _ h => h) (by rfl) ?_ hHeld ?_
      rotate_left
      · (intro w hSw; (try dsimp only at hSw); go_simp; try with_reducible rfl)
      try simp only [Act.put, List.setIfInBounds_toArray, List.set_cons_zero, List.set_cons_succ]
      refine held_take 19 ?_ rfl (by kernel_rfl) (by kernel_rfl) (by kernel_rfl) (fun _ _ _ h => h) (by rfl) ?_ hHeld ?_
      rotate_left
      · (intro w hSw; (try dsimp only at hSw); go_simp; try with_reducible rfl)
      try simp only [Act.put, List.setIfInBounds_toArray, List.set_cons_zero, List.set_cons_succ]
      refine held_take 21 ?_ rfl (by kernel_rfl) (by kernel_rfl) (by kernel_rfl) (fun _ _ _ h => h) (by rfl) ?_ hHeld ?_
      rotate_left
      · (intro w hSw; (try dsimp only at hSw); go_simp; try with_reducible rfl)
      try simp only [Act.put, List.setIfInBounds_toArray, List.set_cons_zero, List.set_cons_succ]
      refine held_one 20 rfl (by kernel_rfl) (by rfl) (fun K hK => ?_)
      go_simp
      refine (record_any _ hS7.store).mono ?_
      rintro e w8 ⟨rfl, hb8⟩
      have hS8 : St w w8 b g s _ _ := hS7.on hb8
      have z0 := (hb8.cell (p := ⟨t, 0, none⟩) ht7).trans y0
      have z1 := (hb8.cell (p := ⟨t, 1, none⟩) ht7).trans y1
      have ht8 : t < w8.heap.size := Nat.lt_of_lt_of_le ht7 hb8.size
      have hsm := sameR_any ((m0 : Int) + 1, (m1 : Int)) ((m0 : Int) + 1, (m1 : Int)) w8
      rw [show decide (((m0 : Int) + 1, (m1 : Int)) = ((m0 : Int) + 1, (m1 : Int))) = true from by simp] at hsm
      refine hK.out _ _ ?_ (fun hHeld2 => ?_)
      · (try dsimp only); (first | exact ⟨y0, y1⟩ | exact ⟨z0, z1⟩ | exact ⟨(hb9.cell (p := ⟨t, 0, none⟩) ht8).trans z0, (hb9.cell (p := ⟨t, 1, none⟩) ht8).trans z1⟩)
      clear hK K hHeld
      have hHeld := hHeld2
      clear hHeld2
      try simp only [Act.put, List.setIfInBounds_toArray, List.set_cons_zero, List.set_cons_succ]
      refine held_one 22 rfl (by kernel_rfl) (by rfl) (fun K hK => ?_)
      go_simp
      refine hsm.mono ?_
      rintro e w9 ⟨rfl, hb9⟩
      have hB9 := hS8.below.trans (hb9.mono hS8.below.size)
      refine hK.out _ _ ?_ (fun hHeld2 => ?_)
      · (try dsimp only); (first | exact ⟨y0, y1⟩ | exact ⟨z0, z1⟩ | exact ⟨(hb9.cell (p := ⟨t, 0, none⟩) ht8).trans z0, (hb9.cell (p := ⟨t, 1, none⟩) ht8).trans z1⟩)
      clear hK K hHeld
      have hHeld := hHeld2
      clear hHeld2
      try simp only [Act.put, List.setIfInBounds_toArray, List.set_cons_zero, List.set_cons_succ]
      refine held_take 23 ?_ rfl (by kernel_rfl) (by kernel_rfl) (by kernel_rfl) (fun _ _ _ h => h) (by rfl) ?_ hHeld ?_
      rotate_left
      · (intro w hSw; (try dsimp only at hSw); go_simp; try with_reducible rfl)
      try simp only [Act.put, List.setIfInBounds_toArray, List.set_cons_zero, List.set_cons_succ]
      refine held_take 24 ?_ rfl (by kernel_rfl) (by kernel_rfl) (by kernel_rfl) (fun _ _ _ h => h) (by rfl) ?_ hHeld ?_
      rotate_left
      · (intro w hSw; (try dsimp only at hSw); go_simp; try with_reducible rfl)
      try simp only [Act.put, List.setIfInBounds_toArray, List.set_cons_zero, List.set_cons_succ]
      refine held_take 25 ?_ rfl (by kernel_rfl) (by kernel_rfl) (by kernel_rfl) (fun _ _ _ h => h) (by rfl) ?_ hHeld ?_
      rotate_left
      · (intro w hSw; (try dsimp only at hSw); go_simp; try with_reducible rfl)
      try simp only [Act.put, List.setIfInBounds_toArray, List.set_cons_zero, List.set_cons_succ]
      refine held_take 26 ?_ rfl (by kernel_rfl) (by kernel_rfl) (by kernel_rfl) (fun _ _ _ h => h) (by rfl) ?_ hHeld ?_
      rotate_left
      · (intro w hSw; (try dsimp only at hSw); go_simp; try with_reducible rfl)
      try simp only [Act.put, List.setIfInBounds_toArray, List.set_cons_zero, List.set_cons_succ]
      refine wpAnyH_done (by kernel_rfl) ?_ _
      clear hHeld
      go_wp2_with fail
      go_ret
      exact ⟨rfl, hB9⟩
end Go.Proofs.YtmfdpjijpbgjbaaDoor
