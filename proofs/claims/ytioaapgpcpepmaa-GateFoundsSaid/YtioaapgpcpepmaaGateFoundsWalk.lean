/- GateFounds: the walk: whatever comes, the Go text returns true. -/
import Derived.Test.YtioaapgpcpepmaaGateFirst
namespace Go.Proofs.Ytioaapgpcpepmaa
open Go.RowKit
set_option linter.unusedSimpArgs false
set_option linter.unusedVariables false

theorem less_zero {c f : Int} (h : validE c f = true) : lessE 0 0 c f = true := by
  simp [validE] at h
  simp [lessE]
  omega
theorem less_self (c f : Int) : lessE c f c f = false := by simp [lessE]
theorem same_self (c f : Int) : sameE c f c f = true := by simp [sameE]
theorem sl_two {w : World} {M : Nat} {x y : Int} (h : Blk w M [.int .i64 x, .int .i64 y] 3) : Sl w (some ⟨M, 0, none⟩) ([x, y].map (Value.int .i64)) := .inr ⟨_, _, rfl, h.lt, fun k hk => by
  have hk2 : k < 2 := by simpa using hk
  rw [Nat.zero_add]
  exact h.cell k⟩

theorem epoch_gt {G : Nat} {c f F : Int} (w : World) (h : Blk w G (Gt.mk c f 0 F).cells 54) : Calls Try.prog 17 #[.pointer (some ⟨G, 0, none⟩)] w fun e w' => e = .returned (.agg #[.int .i64 c, .int .i64 f]) ∧ Below w.heap.size w w' := gateEpoch_any _ _ h
theorem hop_gt {G : Nat} {c f F : Int} (w : World) (h : Blk w G (Gt.mk c f 0 F).cells 54) : Calls Try.prog 16 #[.pointer (some ⟨G, 0, none⟩)] w fun e w' => e = .returned (.int .i64 0) ∧ w = w' := gateHop_any _ _ h
theorem same_gt (c f : Int) (w : World) : Calls Try.prog 13 #[.agg #[.int .i64 c, .int .i64 f], .agg #[.int .i64 c, .int .i64 f]] w (SaysBool w true) := by
  have h := sameEpoch_any c f c f w
  rw [same_self] at h
  exact h
theorem would_gt {G M : Nat} {c f F : Int} (hop car dst : Int) (b : Bool) (w : World) (h : Blk w G (Gt.mk c f 0 F).cells 54) (hs : Sl w (some ⟨M, 0, none⟩) ([2, 5].map (Value.int .i64)))
    (hb : (Gt.mk c f 0 F).would car dst ⟨c, f, hop, some ⟨M, 0, none⟩, [2, 5], 2, none, 0, 0⟩ = b) :
    Calls Try.prog 14 #[.pointer (some ⟨G, 0, none⟩), .int .i64 car, .int .i64 dst, .agg #[.int .i64 c, .int .i64 f, .int .i64 hop, .slice (some ⟨M, 0, none⟩) 2 2, .slice none 0 0]] w (SaysBool w b) := by
  have h := would_any (Gt.mk c f 0 F) car dst ⟨c, f, hop, some ⟨M, 0, none⟩, [2, 5], 2, none, 0, 0⟩ w h hs (by simp)
  rw [hb] at h
  exact h
theorem would_up {M : Nat} {c f F hop : Int} (hv : validE c f = true) (hF : F < c) : (Gt.mk c f 0 F).would 5 5 ⟨c, f, hop, some ⟨M, 0, none⟩, [2, 5], 2, none, 0, 0⟩ = decide (0 < hop) := by
  simp [Gt.would, Gt.aboveB, Gt.newer, hv, hF, less_self, same_self]
theorem would_off {M : Nat} {c f F hop : Int} : (Gt.mk c f 0 F).would 5 2 ⟨c, f, hop, some ⟨M, 0, none⟩, [2, 5], 2, none, 0, 0⟩ = false := by
  simp [Gt.would]
theorem would_out {M : Nat} {c f F hop : Int} : (Gt.mk c f 0 F).would 3 3 ⟨c, f, hop, some ⟨M, 0, none⟩, [2, 5], 2, none, 0, 0⟩ = false := by
  simp [Gt.would]

set_option maxRecDepth 100000 in
set_option maxHeartbeats 16000000 in
theorem gateFounds_walk (floor ac af bc bf hop : Int) (w : World) :
    Calls Try.prog 6 #[.int .i64 floor, .agg #[.int .i64 ac, .int .i64 af], .agg #[.int .i64 bc, .int .i64 bf], .int .i64 hop] w (SaysTrue w) := by
  go_enter Try.func6, Try.ntmps6
  go_wp2_with fail
  obtain ⟨w1, hw1⟩ : ∃ w1, w1 = (w.alloc (.cells #[.int .i64 ac, .int .i64 af] 28)).alloc (.cells #[.int .i64 bc, .int .i64 bf] 28) := ⟨_, rfl⟩
  have hA1 : Blk w1 w.heap.size [.int .i64 ac, .int .i64 af] 28 := by rw [hw1]; exact (Blk.new w _ _).alloc _
  have hb1 : Blk w1 (w.heap.size + 1) [.int .i64 bc, .int .i64 bf] 28 := by
    rw [hw1, show w.heap.size + 1 = (w.alloc (.cells #[.int .i64 ac, .int .i64 af] 28)).heap.size from by simp]; exact Blk.new _ _ _
  have hB1 : Below w.heap.size w w1 := by rw [hw1]; exact ((Below.refl _ _).alloc (Nat.le_refl _) _).alloc (by simp) _
  rw [← hw1]
  clear hw1
  refine (first_any _).mono ?_
  rintro e w2 ⟨rfl, hbl2⟩
  have hA2 := (Eff.of_below (S := fun _ => False) hbl2).blk hA1 (fun h => h)
  have hb2 := (Eff.of_below (S := fun _ => False) hbl2).blk hb1 (fun h => h)
  have hB2 := hB1.trans (hbl2.mono hB1.size)
  clear hA1 hb1 hB1 hbl2
  go_wp2_with fail
  refine (gateNew_any floor _).mono ?_
  rintro e w3 ⟨rfl, hG3, hbl3, _⟩
  have hA3 := (Eff.of_below (S := fun _ => False) hbl3).blk hA2 (fun h => h)
  have hb3 := (Eff.of_below (S := fun _ => False) hbl3).blk hb2 (fun h => h)
  have hB3 := hB2.trans (hbl3.mono hB2.size)
  have hbG := hb2.lt
  have hwG := hB2.size
  obtain ⟨F, hF⟩ : ∃ F, (if floor < 0 then 0 else floor) = F := ⟨_, rfl⟩
  have hFm : max floor 0 = F := by rw [← hF]; omega
  rw [hFm] at hG3
  generalize w2.heap.size = G at *
  clear hA2 hb2 hB2 hbl3 hFm
  have x0 : w3.cell? ⟨w.heap.size, 0, none⟩ = some (.int .i64 ac) := hA3.cell 0
  have x1 : w3.cell? ⟨w.heap.size, 1, none⟩ = some (.int .i64 af) := hA3.cell 1
  go_wp2_with fail
  clear x0 x1
  cases hva : validE ac af with
  | false =>
    have h1 : Gt.founds ⟨0, 0, 0, F⟩ ac af = false := by simp [Gt.founds, Gt.aboveB, hva]
    have h2 : Gt.found ⟨0, 0, 0, F⟩ ac af = ⟨0, 0, 0, F⟩ := by rw [Gt.found, h1]; rfl
    have hfd := found_any ⟨0, 0, 0, F⟩ ac af _ hG3
    rw [h1, h2] at hfd
    refine hfd.mono ?_
    rintro e w4 ⟨rfl, hG4, hE4⟩
    have hA4 := hE4.blk hA3 (by omega)
    have hb4 := hE4.blk hb3 (by omega)
    have hB4 := hE4.below hB3 hB3.size (fun i hi => by omega)
    clear hfd h1 h2 hE4 hG3 hA3 hb3 hB3
    have x0 : w4.cell? ⟨w.heap.size, 0, none⟩ = some (.int .i64 ac) := hA4.cell 0
    have x1 : w4.cell? ⟨w.heap.size, 1, none⟩ = some (.int .i64 af) := hA4.cell 1
    have HVA := hid hva
    clear hva
    go_wp2_with fail
    clear x0 x1
    refine (refValid_any ac af _).mono ?_
    rintro e w5 ⟨rfl, hbl5⟩
    rw [HVA.out]
    have hG5 := (Eff.of_below (S := fun _ => False) hbl5).blk hG4 (fun h => h)
    have hA5 := (Eff.of_below (S := fun _ => False) hbl5).blk hA4 (fun h => h)
    have hb5 := (Eff.of_below (S := fun _ => False) hbl5).blk hb4 (fun h => h)
    have hB5 := hB4.trans (hbl5.mono hB4.size)
    clear hG4 hA4 hb4 hB4 hbl5
    have x0 : w5.cell? ⟨w.heap.size, 0, none⟩ = some (.int .i64 ac) := hA5.cell 0
    have y0 : w5.cell? ⟨w.heap.size + 1, 0, none⟩ = some (.int .i64 bc) := hb5.cell 0
    have y1 : w5.cell? ⟨w.heap.size + 1, 1, none⟩ = some (.int .i64 bf) := hb5.cell 1
    go_wp2_with fail
    clear x0 y0 y1
    cases hvb : validE bc bf with
    | false =>
      have h1 : Gt.founds ⟨0, 0, 0, F⟩ bc bf = false := by simp [Gt.founds, Gt.aboveB, hvb]
      have h2 : Gt.found ⟨0, 0, 0, F⟩ bc bf = ⟨0, 0, 0, F⟩ := by rw [Gt.found, h1]; rfl
      have hfd := found_any ⟨0, 0, 0, F⟩ bc bf _ hG5
      rw [h1, h2] at hfd
      refine hfd.mono ?_
      rintro e w6 ⟨rfl, hG6, hE6⟩
      have hA6 := hE6.blk hA5 (by omega)
      have hb6 := hE6.blk hb5 (by omega)
      have hB6 := hE6.below hB5 hB5.size (fun i hi => by omega)
      clear hfd h1 h2 hE6 hG5 hA5 hb5 hB5
      have x0 : w6.cell? ⟨w.heap.size + 1, 0, none⟩ = some (.int .i64 bc) := hb6.cell 0
      have x1 : w6.cell? ⟨w.heap.size + 1, 1, none⟩ = some (.int .i64 bf) := hb6.cell 1
      have HVB := hid hvb
      clear hvb
      go_wp2_with fail
      clear x0 x1
      refine (refValid_any bc bf _).mono ?_
      rintro e w7 ⟨rfl, hbl7⟩
      rw [HVB.out]
      have hG7 := (Eff.of_below (S := fun _ => False) hbl7).blk hG6 (fun h => h)
      have hA7 := (Eff.of_below (S := fun _ => False) hbl7).blk hA6 (fun h => h)
      have hb7 := (Eff.of_below (S := fun _ => False) hbl7).blk hb6 (fun h => h)
      have hB7 := hB6.trans (hbl7.mono hB6.size)
      clear hG6 hA6 hb6 hB6 hbl7
      have x0 : w7.cell? ⟨w.heap.size, 0, none⟩ = some (.int .i64 ac) := hA7.cell 0
      have x1 : w7.cell? ⟨w.heap.size, 1, none⟩ = some (.int .i64 af) := hA7.cell 1
      have y0 : w7.cell? ⟨w.heap.size + 1, 0, none⟩ = some (.int .i64 bc) := hb7.cell 0
      have y1 : w7.cell? ⟨w.heap.size + 1, 1, none⟩ = some (.int .i64 bf) := hb7.cell 1
      go_wp2_with fail
      clear x0 x1 y0 y1
      refine (refValid_any bc bf _).mono ?_
      rintro e w8 ⟨rfl, hbl8⟩
      rw [HVB.out]
      have hb8 := (Eff.of_below (S := fun _ => False) hbl8).blk hb7 (fun h => h)
      have hB8 := hB7.trans (hbl8.mono hB7.size)
      have y0 : w8.cell? ⟨w.heap.size + 1, 0, none⟩ = some (.int .i64 bc) := hb8.cell 0
      clear hb8 hbl8
      go_wp2
      go_ret
      exact ⟨rfl, hB8⟩
    | true =>
      by_cases hFb : F < bc
      · have h1 : Gt.founds ⟨0, 0, 0, F⟩ bc bf = true := by simp [Gt.founds, Gt.aboveB, hvb, hFb, less_zero hvb]
        have h2 : Gt.found ⟨0, 0, 0, F⟩ bc bf = ⟨bc, bf, 0, F⟩ := by rw [Gt.found, h1]; rfl
        have hfd := found_any ⟨0, 0, 0, F⟩ bc bf _ hG5
        rw [h1, h2] at hfd
        refine hfd.mono ?_
        rintro e w6 ⟨rfl, hG6, hE6⟩
        have hA6 := hE6.blk hA5 (by omega)
        have hb6 := hE6.blk hb5 (by omega)
        have hB6 := hE6.below hB5 hB5.size (fun i hi => by omega)
        clear hfd h1 h2 hE6 hG5 hA5 hb5 hB5
        have x0 : w6.cell? ⟨w.heap.size + 1, 0, none⟩ = some (.int .i64 bc) := hb6.cell 0
        have x1 : w6.cell? ⟨w.heap.size + 1, 1, none⟩ = some (.int .i64 bf) := hb6.cell 1
        have HVB := hid hvb
        clear hvb
        go_wp2_with fail
        clear x0 x1
        refine (refValid_any bc bf _).mono ?_
        rintro e w7 ⟨rfl, hbl7⟩
        rw [HVB.out]
        have hG7 := (Eff.of_below (S := fun _ => False) hbl7).blk hG6 (fun h => h)
        have hA7 := (Eff.of_below (S := fun _ => False) hbl7).blk hA6 (fun h => h)
        have hb7 := (Eff.of_below (S := fun _ => False) hbl7).blk hb6 (fun h => h)
        have hB7 := hB6.trans (hbl7.mono hB6.size)
        clear hG6 hA6 hb6 hB6 hbl7
        have x0 : w7.cell? ⟨w.heap.size, 0, none⟩ = some (.int .i64 ac) := hA7.cell 0
        have x1 : w7.cell? ⟨w.heap.size, 1, none⟩ = some (.int .i64 af) := hA7.cell 1
        have y0 : w7.cell? ⟨w.heap.size + 1, 0, none⟩ = some (.int .i64 bc) := hb7.cell 0
        have y1 : w7.cell? ⟨w.heap.size + 1, 1, none⟩ = some (.int .i64 bf) := hb7.cell 1
        have z0 : (w7.alloc (.cells #[.int .i64 ac, .int .i64 af] 28)).cell? ⟨w.heap.size + 1, 0, none⟩ = some (.int .i64 bc) := (hb7.alloc _).cell 0
        have z1 : (w7.alloc (.cells #[.int .i64 ac, .int .i64 af] 28)).cell? ⟨w.heap.size + 1, 1, none⟩ = some (.int .i64 bf) := (hb7.alloc _).cell 1
        go_wp2_with fail
        clear z0 z1
        clear x0 x1 y0 y1
        obtain ⟨v1, hv1⟩ : ∃ v1, v1 = ((w7.alloc (.cells #[.int .i64 bc, .int .i64 bf] 28)).alloc (.cells #[.int .i64 2, .int .i64 5] 3)).alloc (.cells #[.int .i64 bc, .int .i64 bf, .int .i64 hop, .slice (some ⟨w7.heap.size + 1, 0, none⟩) 2 2, .slice none 0 0] 32) := ⟨_, rfl⟩
        have hE1 : Blk v1 w7.heap.size [.int .i64 bc, .int .i64 bf] 28 := by rw [hv1]; exact ((Blk.new w7 _ _).alloc _).alloc _
        have hM1 : Blk v1 (w7.heap.size + 1) [.int .i64 2, .int .i64 5] 3 := by
          rw [hv1, show w7.heap.size + 1 = (w7.alloc (.cells #[.int .i64 bc, .int .i64 bf] 28)).heap.size from by simp]; exact (Blk.new _ _ _).alloc _
        have hR1 : Blk v1 (w7.heap.size + 1 + 1) [.int .i64 bc, .int .i64 bf, .int .i64 hop, .slice (some ⟨w7.heap.size + 1, 0, none⟩) 2 2, .slice none 0 0] 32 := by
          rw [hv1, show w7.heap.size + 1 + 1 = ((w7.alloc (.cells #[.int .i64 bc, .int .i64 bf] 28)).alloc (.cells #[.int .i64 2, .int .i64 5] 3)).heap.size from by simp]; exact Blk.new _ _ _
        have hG1 : Blk v1 G (Gt.mk bc bf 0 F).cells 54 := by rw [hv1]; exact ((hG7.alloc _).alloc _).alloc _
        have hB1 : Below w.heap.size w v1 := by rw [hv1]; exact ((hB7.alloc hB7.size _).alloc (Nat.le_trans hB7.size (by simp)) _).alloc (Nat.le_trans hB7.size (by simp; omega)) _
        rw [← hv1]
        clear hv1
        have hs1 := sl_two hM1
        clear hM1
        have hE1 := hE1.drew
        have hR1 := hR1.drew
        have hG1 := hG1.drew
        have hB1 := hB1.drew
        have hs1 : Sl v1.drew _ _ := hs1
        refine wp_region_held_drew (S := fun w' => w'.cell? ⟨w7.heap.size, 0, none⟩ = some (.int .i64 bc) ∧ w'.cell? ⟨w7.heap.size, 1, none⟩ = some (.int .i64 bf) ∧ w'.cell? ⟨w7.heap.size + 1 + 1, 0, none⟩ = some (.int .i64 bc) ∧ w'.cell? ⟨w7.heap.size + 1 + 1, 1, none⟩ = some (.int .i64 bf) ∧ w'.cell? ⟨w7.heap.size + 1 + 1, 2, none⟩ = some (.int .i64 hop) ∧ w'.cell? ⟨w7.heap.size + 1 + 1, 3, none⟩ = some (.slice (some ⟨w7.heap.size + 1, 0, none⟩) 2 2) ∧ w'.cell? ⟨w7.heap.size + 1 + 1, 4, none⟩ = some (.slice none 0 0)) (by kernel_rfl) ?_ (fun hHeld => ?_)
        · (try dsimp only); (first | exact ⟨hE1.cell 0, hE1.cell 1, hR1.cell 0, hR1.cell 1, hR1.cell 2, hR1.cell 3, hR1.cell 4⟩ | exact ⟨hE2.cell 0, hE2.cell 1, hR2.cell 0, hR2.cell 1, hR2.cell 2, hR2.cell 3, hR2.cell 4⟩ | exact ⟨hE3.cell 0, hE3.cell 1, hR3.cell 0, hR3.cell 1, hR3.cell 2, hR3.cell 3, hR3.cell 4⟩ | exact ⟨hE4.cell 0, hE4.cell 1, hR4.cell 0, hR4.cell 1, hR4.cell 2, hR4.cell 3, hR4.cell 4⟩ | exact ⟨hE5.cell 0, hE5.cell 1, hR5.cell 0, hR5.cell 1, hR5.cell 2, hR5.cell 3, hR5.cell 4⟩ | exact ⟨hE6.cell 0, hE6.cell 1, hR6.cell 0, hR6.cell 1, hR6.cell 2, hR6.cell 3, hR6.cell 4⟩)
        refine held_take 0 ?_ rfl (by kernel_rfl) (by kernel_rfl) (by kernel_rfl) (fun _ _ _ h => h) (by rfl) ?_ hHeld ?_
        rotate_left
        · (intro w hSw; (try dsimp only at hSw); go_simp; try with_reducible rfl)
        try simp only [Act.put, List.setIfInBounds_toArray, List.set_cons_zero, List.set_cons_succ]
        refine held_take 1 ?_ rfl (by kernel_rfl) (by kernel_rfl) (by kernel_rfl) (fun _ _ _ h => h) (by rfl) ?_ hHeld ?_
        rotate_left
        · (intro w hSw; (try dsimp only at hSw); go_simp; try with_reducible rfl)
        try simp only [Act.put, List.setIfInBounds_toArray, List.set_cons_zero, List.set_cons_succ]
        refine held_take 2 ?_ rfl (by kernel_rfl) (by kernel_rfl) (by kernel_rfl) (fun _ _ _ h => h) (by rfl) ?_ hHeld ?_
        rotate_left
        · (intro w hSw; (try dsimp only at hSw); go_simp; try with_reducible rfl)
        try simp only [Act.put, List.setIfInBounds_toArray, List.set_cons_zero, List.set_cons_succ]
        refine held_take 4 ?_ rfl (by kernel_rfl) (by kernel_rfl) (by kernel_rfl) (fun _ _ _ h => h) (by rfl) ?_ hHeld ?_
        rotate_left
        · (intro w hSw; (try dsimp only at hSw); go_simp; try with_reducible rfl)
        try simp only [Act.put, List.setIfInBounds_toArray, List.set_cons_zero, List.set_cons_succ]
        refine held_one 3 rfl (by kernel_rfl) (by rfl) (fun K hK => ?_)
        go_simp
        refine (epoch_gt _ hG1).mono ?_
        rintro e v2 ⟨rfl, hb2⟩
        have hE2 := (Eff.of_below (S := fun _ => False) hb2).blk hE1 (fun h => h)
        have hG2 := (Eff.of_below (S := fun _ => False) hb2).blk hG1 (fun h => h)
        have hR2 := (Eff.of_below (S := fun _ => False) hb2).blk hR1 (fun h => h)
        have hs2 := hs1.eff (Eff.of_below (S := fun _ => False) hb2) (fun _ _ h => h)
        have hB2 := hB1.trans (hb2.mono hB1.size)
        clear hE1 hG1 hR1 hs1 hB1 hb2
        refine hK.out _ _ ?_ (fun hHeld2 => ?_)
        · (try dsimp only); (first | exact ⟨hE1.cell 0, hE1.cell 1, hR1.cell 0, hR1.cell 1, hR1.cell 2, hR1.cell 3, hR1.cell 4⟩ | exact ⟨hE2.cell 0, hE2.cell 1, hR2.cell 0, hR2.cell 1, hR2.cell 2, hR2.cell 3, hR2.cell 4⟩ | exact ⟨hE3.cell 0, hE3.cell 1, hR3.cell 0, hR3.cell 1, hR3.cell 2, hR3.cell 3, hR3.cell 4⟩ | exact ⟨hE4.cell 0, hE4.cell 1, hR4.cell 0, hR4.cell 1, hR4.cell 2, hR4.cell 3, hR4.cell 4⟩ | exact ⟨hE5.cell 0, hE5.cell 1, hR5.cell 0, hR5.cell 1, hR5.cell 2, hR5.cell 3, hR5.cell 4⟩ | exact ⟨hE6.cell 0, hE6.cell 1, hR6.cell 0, hR6.cell 1, hR6.cell 2, hR6.cell 3, hR6.cell 4⟩)
        clear hK K hHeld
        have hHeld := hHeld2
        clear hHeld2
        try simp only [Act.put, List.setIfInBounds_toArray, List.set_cons_zero, List.set_cons_succ]
        refine held_one 5 rfl (by kernel_rfl) (by rfl) (fun K hK => ?_)
        go_simp
        refine (same_gt bc bf _).mono ?_
        rintro e v3 ⟨rfl, hb3⟩
        have hE3 := (Eff.of_below (S := fun _ => False) hb3).blk hE2 (fun h => h)
        have hG3 := (Eff.of_below (S := fun _ => False) hb3).blk hG2 (fun h => h)
        have hR3 := (Eff.of_below (S := fun _ => False) hb3).blk hR2 (fun h => h)
        have hs3 := hs2.eff (Eff.of_below (S := fun _ => False) hb3) (fun _ _ h => h)
        have hB3 := hB2.trans (hb3.mono hB2.size)
        clear hE2 hG2 hR2 hs2 hB2 hb3
        refine hK.out _ _ ?_ (fun hHeld2 => ?_)
        · (try dsimp only); (first | exact ⟨hE1.cell 0, hE1.cell 1, hR1.cell 0, hR1.cell 1, hR1.cell 2, hR1.cell 3, hR1.cell 4⟩ | exact ⟨hE2.cell 0, hE2.cell 1, hR2.cell 0, hR2.cell 1, hR2.cell 2, hR2.cell 3, hR2.cell 4⟩ | exact ⟨hE3.cell 0, hE3.cell 1, hR3.cell 0, hR3.cell 1, hR3.cell 2, hR3.cell 3, hR3.cell 4⟩ | exact ⟨hE4.cell 0, hE4.cell 1, hR4.cell 0, hR4.cell 1, hR4.cell 2, hR4.cell 3, hR4.cell 4⟩ | exact ⟨hE5.cell 0, hE5.cell 1, hR5.cell 0, hR5.cell 1, hR5.cell 2, hR5.cell 3, hR5.cell 4⟩ | exact ⟨hE6.cell 0, hE6.cell 1, hR6.cell 0, hR6.cell 1, hR6.cell 2, hR6.cell 3, hR6.cell 4⟩)
        clear hK K hHeld
        have hHeld := hHeld2
        clear hHeld2
        try simp only [Act.put, List.setIfInBounds_toArray, List.set_cons_zero, List.set_cons_succ]
        refine held_take 6 ?_ rfl (by kernel_rfl) (by kernel_rfl) (by kernel_rfl) (fun _ _ _ h => h) (by rfl) ?_ hHeld ?_
        rotate_left
        · (intro w hSw; (try dsimp only at hSw); go_simp; try with_reducible rfl)
        try simp only [Act.put, List.setIfInBounds_toArray, List.set_cons_zero, List.set_cons_succ]
        refine held_take 7 ?_ rfl (by kernel_rfl) (by kernel_rfl) (by kernel_rfl) (fun _ _ _ h => h) (by rfl) ?_ hHeld ?_
        rotate_left
        · (intro w hSw; (try dsimp only at hSw); go_simp; try with_reducible rfl)
        try simp only [Act.put, List.setIfInBounds_toArray, List.set_cons_zero, List.set_cons_succ]
        refine held_take 8 ?_ rfl (by kernel_rfl) (by kernel_rfl) (by kernel_rfl) (fun _ _ _ h => h) (by rfl) ?_ hHeld ?_
        rotate_left
        · (intro w hSw; (try dsimp only at hSw); go_simp; try with_reducible rfl)
        try simp only [Act.put, List.setIfInBounds_toArray, List.set_cons_zero, List.set_cons_succ]
        refine held_one 9 rfl (by kernel_rfl) (by rfl) (fun K hK => ?_)
        go_simp
        refine (hop_gt _ hG3).mono ?_
        rintro e w' ⟨rfl, rfl⟩
        refine hK.out _ _ ?_ (fun hHeld2 => ?_)
        · (try dsimp only); (first | exact ⟨hE1.cell 0, hE1.cell 1, hR1.cell 0, hR1.cell 1, hR1.cell 2, hR1.cell 3, hR1.cell 4⟩ | exact ⟨hE2.cell 0, hE2.cell 1, hR2.cell 0, hR2.cell 1, hR2.cell 2, hR2.cell 3, hR2.cell 4⟩ | exact ⟨hE3.cell 0, hE3.cell 1, hR3.cell 0, hR3.cell 1, hR3.cell 2, hR3.cell 3, hR3.cell 4⟩ | exact ⟨hE4.cell 0, hE4.cell 1, hR4.cell 0, hR4.cell 1, hR4.cell 2, hR4.cell 3, hR4.cell 4⟩ | exact ⟨hE5.cell 0, hE5.cell 1, hR5.cell 0, hR5.cell 1, hR5.cell 2, hR5.cell 3, hR5.cell 4⟩ | exact ⟨hE6.cell 0, hE6.cell 1, hR6.cell 0, hR6.cell 1, hR6.cell 2, hR6.cell 3, hR6.cell 4⟩)
        clear hK K hHeld
        have hHeld := hHeld2
        clear hHeld2
        try simp only [Act.put, List.setIfInBounds_toArray, List.set_cons_zero, List.set_cons_succ]
        refine held_take 10 ?_ rfl (by kernel_rfl) (by kernel_rfl) (by kernel_rfl) (fun _ _ _ h => h) (by rfl) ?_ hHeld ?_
        rotate_left
        · (intro w hSw; (try dsimp only at hSw); go_simp; try with_reducible rfl)
        try simp only [Act.put, List.setIfInBounds_toArray, List.set_cons_zero, List.set_cons_succ]
        refine held_take 11 ?_ rfl (by kernel_rfl) (by kernel_rfl) (by kernel_rfl) (fun _ _ _ h => h) (by rfl) ?_ hHeld ?_
        rotate_left
        · (intro w hSw; (try dsimp only at hSw); go_simp; try with_reducible rfl)
        try simp only [Act.put, List.setIfInBounds_toArray, List.set_cons_zero, List.set_cons_succ]
        refine held_take 12 ?_ rfl (by kernel_rfl) (by kernel_rfl) (by kernel_rfl) (fun _ _ _ h => h) (by rfl) ?_ hHeld ?_
        rotate_left
        · (intro w hSw; (try dsimp only at hSw); go_simp; try with_reducible rfl)
        try simp only [Act.put, List.setIfInBounds_toArray, List.set_cons_zero, List.set_cons_succ]
        refine held_take 13 ?_ rfl (by kernel_rfl) (by kernel_rfl) (by kernel_rfl) (fun _ _ _ h => h) (by rfl) ?_ hHeld ?_
        rotate_left
        · (intro w hSw; (try dsimp only at hSw); go_simp; try with_reducible rfl)
        try simp only [Act.put, List.setIfInBounds_toArray, List.set_cons_zero, List.set_cons_succ]
        refine held_take 14 ?_ rfl (by kernel_rfl) (by kernel_rfl) (by kernel_rfl) (fun _ _ _ h => h) (by rfl) ?_ hHeld ?_
        rotate_left
        · (intro w hSw; (try dsimp only at hSw); go_simp; try with_reducible rfl)
        try simp only [Act.put, List.setIfInBounds_toArray, List.set_cons_zero, List.set_cons_succ]
        refine held_take 16 ?_ rfl (by kernel_rfl) (by kernel_rfl) (by kernel_rfl) (fun _ _ _ h => h) (by rfl) ?_ hHeld ?_
        rotate_left
        · (intro w hSw; (try dsimp only at hSw); go_simp; try with_reducible rfl)
        try simp only [Act.put, List.setIfInBounds_toArray, List.set_cons_zero, List.set_cons_succ]
        refine held_take 17 ?_ rfl (by kernel_rfl) (by kernel_rfl) (by kernel_rfl) (fun _ _ _ h => h) (by rfl) ?_ hHeld ?_
        rotate_left
        · (intro w hSw; (try dsimp only at hSw); go_simp; try with_reducible rfl)
        try simp only [Act.put, List.setIfInBounds_toArray, List.set_cons_zero, List.set_cons_succ]
        refine held_one 15 rfl (by kernel_rfl) (by rfl) (fun K hK => ?_)
        go_simp
        refine (would_gt hop 5 5 _ _ hG3 hs3 (would_up HVB.out hFb)).mono ?_
        rintro e v4 ⟨rfl, hb4⟩
        have hE4 := (Eff.of_below (S := fun _ => False) hb4).blk hE3 (fun h => h)
        have hG4 := (Eff.of_below (S := fun _ => False) hb4).blk hG3 (fun h => h)
        have hR4 := (Eff.of_below (S := fun _ => False) hb4).blk hR3 (fun h => h)
        have hs4 := hs3.eff (Eff.of_below (S := fun _ => False) hb4) (fun _ _ h => h)
        have hB4 := hB3.trans (hb4.mono hB3.size)
        clear hE3 hG3 hR3 hs3 hB3 hb4
        refine hK.out _ _ ?_ (fun hHeld2 => ?_)
        · (try dsimp only); (first | exact ⟨hE1.cell 0, hE1.cell 1, hR1.cell 0, hR1.cell 1, hR1.cell 2, hR1.cell 3, hR1.cell 4⟩ | exact ⟨hE2.cell 0, hE2.cell 1, hR2.cell 0, hR2.cell 1, hR2.cell 2, hR2.cell 3, hR2.cell 4⟩ | exact ⟨hE3.cell 0, hE3.cell 1, hR3.cell 0, hR3.cell 1, hR3.cell 2, hR3.cell 3, hR3.cell 4⟩ | exact ⟨hE4.cell 0, hE4.cell 1, hR4.cell 0, hR4.cell 1, hR4.cell 2, hR4.cell 3, hR4.cell 4⟩ | exact ⟨hE5.cell 0, hE5.cell 1, hR5.cell 0, hR5.cell 1, hR5.cell 2, hR5.cell 3, hR5.cell 4⟩ | exact ⟨hE6.cell 0, hE6.cell 1, hR6.cell 0, hR6.cell 1, hR6.cell 2, hR6.cell 3, hR6.cell 4⟩)
        clear hK K hHeld
        have hHeld := hHeld2
        clear hHeld2
        try simp only [Act.put, List.setIfInBounds_toArray, List.set_cons_zero, List.set_cons_succ]
        refine held_take 18 ?_ rfl (by kernel_rfl) (by kernel_rfl) (by kernel_rfl) (fun _ _ _ h => h) (by rfl) ?_ hHeld ?_
        rotate_left
        · (intro w hSw; (try dsimp only at hSw); go_simp; try with_reducible rfl)
        try simp only [Act.put, List.setIfInBounds_toArray, List.set_cons_zero, List.set_cons_succ]
        refine held_take 19 ?_ rfl (by kernel_rfl) (by kernel_rfl) (by kernel_rfl) (fun _ _ _ h => h) (by rfl) ?_ hHeld ?_
        rotate_left
        · (intro w hSw; (try dsimp only at hSw); go_simp; try with_reducible rfl)
        try simp only [Act.put, List.setIfInBounds_toArray, List.set_cons_zero, List.set_cons_succ]
        refine held_take 20 ?_ rfl (by kernel_rfl) (by kernel_rfl) (by kernel_rfl) (fun _ _ _ h => h) (by rfl) ?_ hHeld ?_
        rotate_left
        · (intro w hSw; (try dsimp only at hSw); go_simp; try with_reducible rfl)
        try simp only [Act.put, List.setIfInBounds_toArray, List.set_cons_zero, List.set_cons_succ]
        refine held_take 21 ?_ rfl (by kernel_rfl) (by kernel_rfl) (by kernel_rfl) (fun _ _ _ h => h) (by rfl) ?_ hHeld ?_
        rotate_left
        · (intro w hSw; (try dsimp only at hSw); go_simp; try with_reducible rfl)
        try simp only [Act.put, List.setIfInBounds_toArray, List.set_cons_zero, List.set_cons_succ]
        refine held_take 22 ?_ rfl (by kernel_rfl) (by kernel_rfl) (by kernel_rfl) (fun _ _ _ h => h) (by rfl) ?_ hHeld ?_
        rotate_left
        · (intro w hSw; (try dsimp only at hSw); go_simp; try with_reducible rfl)
        try simp only [Act.put, List.setIfInBounds_toArray, List.set_cons_zero, List.set_cons_succ]
        refine held_one 23 rfl (by kernel_rfl) (by rfl) (fun K hK => ?_)
        go_simp
        refine (would_gt hop 5 2 _ _ hG4 hs4 would_off).mono ?_
        rintro e v5 ⟨rfl, hb5⟩
        have hE5 := (Eff.of_below (S := fun _ => False) hb5).blk hE4 (fun h => h)
        have hG5 := (Eff.of_below (S := fun _ => False) hb5).blk hG4 (fun h => h)
        have hR5 := (Eff.of_below (S := fun _ => False) hb5).blk hR4 (fun h => h)
        have hs5 := hs4.eff (Eff.of_below (S := fun _ => False) hb5) (fun _ _ h => h)
        have hB5 := hB4.trans (hb5.mono hB4.size)
        clear hE4 hG4 hR4 hs4 hB4 hb5
        refine hK.out _ _ ?_ (fun hHeld2 => ?_)
        · (try dsimp only); (first | exact ⟨hE1.cell 0, hE1.cell 1, hR1.cell 0, hR1.cell 1, hR1.cell 2, hR1.cell 3, hR1.cell 4⟩ | exact ⟨hE2.cell 0, hE2.cell 1, hR2.cell 0, hR2.cell 1, hR2.cell 2, hR2.cell 3, hR2.cell 4⟩ | exact ⟨hE3.cell 0, hE3.cell 1, hR3.cell 0, hR3.cell 1, hR3.cell 2, hR3.cell 3, hR3.cell 4⟩ | exact ⟨hE4.cell 0, hE4.cell 1, hR4.cell 0, hR4.cell 1, hR4.cell 2, hR4.cell 3, hR4.cell 4⟩ | exact ⟨hE5.cell 0, hE5.cell 1, hR5.cell 0, hR5.cell 1, hR5.cell 2, hR5.cell 3, hR5.cell 4⟩ | exact ⟨hE6.cell 0, hE6.cell 1, hR6.cell 0, hR6.cell 1, hR6.cell 2, hR6.cell 3, hR6.cell 4⟩)
        clear hK K hHeld
        have hHeld := hHeld2
        clear hHeld2
        try simp only [Act.put, List.setIfInBounds_toArray, List.set_cons_zero, List.set_cons_succ]
        refine held_take 24 ?_ rfl (by kernel_rfl) (by kernel_rfl) (by kernel_rfl) (fun _ _ _ h => h) (by rfl) ?_ hHeld ?_
        rotate_left
        · (intro w hSw; (try dsimp only at hSw); go_simp; try with_reducible rfl)
        try simp only [Act.put, List.setIfInBounds_toArray, List.set_cons_zero, List.set_cons_succ]
        refine held_take 25 ?_ rfl (by kernel_rfl) (by kernel_rfl) (by kernel_rfl) (fun _ _ _ h => h) (by rfl) ?_ hHeld ?_
        rotate_left
        · (intro w hSw; (try dsimp only at hSw); go_simp; try with_reducible rfl)
        try simp only [Act.put, List.setIfInBounds_toArray, List.set_cons_zero, List.set_cons_succ]
        refine held_take 26 ?_ rfl (by kernel_rfl) (by kernel_rfl) (by kernel_rfl) (fun _ _ _ h => h) (by rfl) ?_ hHeld ?_
        rotate_left
        · (intro w hSw; (try dsimp only at hSw); go_simp; try with_reducible rfl)
        try simp only [Act.put, List.setIfInBounds_toArray, List.set_cons_zero, List.set_cons_succ]
        refine held_take 27 ?_ rfl (by kernel_rfl) (by kernel_rfl) (by kernel_rfl) (fun _ _ _ h => h) (by rfl) ?_ hHeld ?_
        rotate_left
        · (intro w hSw; (try dsimp only at hSw); go_simp; try with_reducible rfl)
        try simp only [Act.put, List.setIfInBounds_toArray, List.set_cons_zero, List.set_cons_succ]
        refine held_take 28 ?_ rfl (by kernel_rfl) (by kernel_rfl) (by kernel_rfl) (fun _ _ _ h => h) (by rfl) ?_ hHeld ?_
        rotate_left
        · (intro w hSw; (try dsimp only at hSw); go_simp; try with_reducible rfl)
        try simp only [Act.put, List.setIfInBounds_toArray, List.set_cons_zero, List.set_cons_succ]
        refine held_one 29 rfl (by kernel_rfl) (by rfl) (fun K hK => ?_)
        go_simp
        refine (would_gt hop 3 3 _ _ hG5 hs5 would_out).mono ?_
        rintro e v6 ⟨rfl, hb6⟩
        have hE6 := (Eff.of_below (S := fun _ => False) hb6).blk hE5 (fun h => h)
        have hG6 := (Eff.of_below (S := fun _ => False) hb6).blk hG5 (fun h => h)
        have hR6 := (Eff.of_below (S := fun _ => False) hb6).blk hR5 (fun h => h)
        have hs6 := hs5.eff (Eff.of_below (S := fun _ => False) hb6) (fun _ _ h => h)
        have hB6 := hB5.trans (hb6.mono hB5.size)
        clear hE5 hG5 hR5 hs5 hB5 hb6
        refine hK.out _ _ ?_ (fun hHeld2 => ?_)
        · (try dsimp only); (first | exact ⟨hE1.cell 0, hE1.cell 1, hR1.cell 0, hR1.cell 1, hR1.cell 2, hR1.cell 3, hR1.cell 4⟩ | exact ⟨hE2.cell 0, hE2.cell 1, hR2.cell 0, hR2.cell 1, hR2.cell 2, hR2.cell 3, hR2.cell 4⟩ | exact ⟨hE3.cell 0, hE3.cell 1, hR3.cell 0, hR3.cell 1, hR3.cell 2, hR3.cell 3, hR3.cell 4⟩ | exact ⟨hE4.cell 0, hE4.cell 1, hR4.cell 0, hR4.cell 1, hR4.cell 2, hR4.cell 3, hR4.cell 4⟩ | exact ⟨hE5.cell 0, hE5.cell 1, hR5.cell 0, hR5.cell 1, hR5.cell 2, hR5.cell 3, hR5.cell 4⟩ | exact ⟨hE6.cell 0, hE6.cell 1, hR6.cell 0, hR6.cell 1, hR6.cell 2, hR6.cell 3, hR6.cell 4⟩)
        clear hK K hHeld
        have hHeld := hHeld2
        clear hHeld2
        try simp only [Act.put, List.setIfInBounds_toArray, List.set_cons_zero, List.set_cons_succ]
        refine held_take 30 ?_ rfl (by kernel_rfl) (by kernel_rfl) (by kernel_rfl) (fun _ _ _ h => h) (by rfl) ?_ hHeld ?_
        rotate_left
        · (intro w hSw; (try dsimp only at hSw); go_simp; try with_reducible rfl)
        try simp only [Act.put, List.setIfInBounds_toArray, List.set_cons_zero, List.set_cons_succ]
        refine held_take 31 ?_ rfl (by kernel_rfl) (by kernel_rfl) (by kernel_rfl) (fun _ _ _ h => h) (by rfl) ?_ hHeld ?_
        rotate_left
        · (intro w hSw; (try dsimp only at hSw); go_simp; try with_reducible rfl)
        try simp only [Act.put, List.setIfInBounds_toArray, List.set_cons_zero, List.set_cons_succ]
        refine held_take 32 ?_ rfl (by kernel_rfl) (by kernel_rfl) (by kernel_rfl) (fun _ _ _ h => h) (by rfl) ?_ hHeld ?_
        rotate_left
        · (intro w hSw; (try dsimp only at hSw); go_simp; try with_reducible rfl)
        try simp only [Act.put, List.setIfInBounds_toArray, List.set_cons_zero, List.set_cons_succ]
        refine wpAnyH_done (by kernel_rfl) ?_ _
        clear hHeld
        go_wp2
        go_ret
        exact ⟨rfl, hB6⟩
      · have h1 : Gt.founds ⟨0, 0, 0, F⟩ bc bf = false := by simp [Gt.founds, Gt.aboveB, hvb, hFb]
        have h2 : Gt.found ⟨0, 0, 0, F⟩ bc bf = ⟨0, 0, 0, F⟩ := by rw [Gt.found, h1]; rfl
        have hfd := found_any ⟨0, 0, 0, F⟩ bc bf _ hG5
        rw [h1, h2] at hfd
        refine hfd.mono ?_
        rintro e w6 ⟨rfl, hG6, hE6⟩
        have hA6 := hE6.blk hA5 (by omega)
        have hb6 := hE6.blk hb5 (by omega)
        have hB6 := hE6.below hB5 hB5.size (fun i hi => by omega)
        clear hfd h1 h2 hE6 hG5 hA5 hb5 hB5
        have x0 : w6.cell? ⟨w.heap.size + 1, 0, none⟩ = some (.int .i64 bc) := hb6.cell 0
        have x1 : w6.cell? ⟨w.heap.size + 1, 1, none⟩ = some (.int .i64 bf) := hb6.cell 1
        have HVB := hid hvb
        clear hvb
        go_wp2_with fail
        clear x0 x1
        refine (refValid_any bc bf _).mono ?_
        rintro e w7 ⟨rfl, hbl7⟩
        rw [HVB.out]
        have hG7 := (Eff.of_below (S := fun _ => False) hbl7).blk hG6 (fun h => h)
        have hA7 := (Eff.of_below (S := fun _ => False) hbl7).blk hA6 (fun h => h)
        have hb7 := (Eff.of_below (S := fun _ => False) hbl7).blk hb6 (fun h => h)
        have hB7 := hB6.trans (hbl7.mono hB6.size)
        clear hG6 hA6 hb6 hB6 hbl7
        have x0 : w7.cell? ⟨w.heap.size, 0, none⟩ = some (.int .i64 ac) := hA7.cell 0
        have x1 : w7.cell? ⟨w.heap.size, 1, none⟩ = some (.int .i64 af) := hA7.cell 1
        have y0 : w7.cell? ⟨w.heap.size + 1, 0, none⟩ = some (.int .i64 bc) := hb7.cell 0
        have y1 : w7.cell? ⟨w.heap.size + 1, 1, none⟩ = some (.int .i64 bf) := hb7.cell 1
        go_wp2_with fail
        clear x0 x1 y0 y1
        refine (refValid_any bc bf _).mono ?_
        rintro e w8 ⟨rfl, hbl8⟩
        rw [HVB.out]
        have hb8 := (Eff.of_below (S := fun _ => False) hbl8).blk hb7 (fun h => h)
        have hB8 := hB7.trans (hbl8.mono hB7.size)
        have y0 : w8.cell? ⟨w.heap.size + 1, 0, none⟩ = some (.int .i64 bc) := hb8.cell 0
        clear hb8 hbl8
        go_wp2
        go_ret
        exact ⟨rfl, hB8⟩
  | true =>
    by_cases hFa : F < ac
    · have h1 : Gt.founds ⟨0, 0, 0, F⟩ ac af = true := by simp [Gt.founds, Gt.aboveB, hva, hFa, less_zero hva]
      have h2 : Gt.found ⟨0, 0, 0, F⟩ ac af = ⟨ac, af, 0, F⟩ := by rw [Gt.found, h1]; rfl
      have hfd := found_any ⟨0, 0, 0, F⟩ ac af _ hG3
      rw [h1, h2] at hfd
      refine hfd.mono ?_
      rintro e w4 ⟨rfl, hG4, hE4⟩
      have hA4 := hE4.blk hA3 (by omega)
      have hb4 := hE4.blk hb3 (by omega)
      have hB4 := hE4.below hB3 hB3.size (fun i hi => by omega)
      clear hfd h1 h2 hE4 hG3 hA3 hb3 hB3
      have x0 : w4.cell? ⟨w.heap.size, 0, none⟩ = some (.int .i64 ac) := hA4.cell 0
      have x1 : w4.cell? ⟨w.heap.size, 1, none⟩ = some (.int .i64 af) := hA4.cell 1
      have HVA := hid hva
      clear hva
      go_wp2_with fail
      clear x0 x1
      refine (refValid_any ac af _).mono ?_
      rintro e w5 ⟨rfl, hbl5⟩
      rw [HVA.out]
      have hG5 := (Eff.of_below (S := fun _ => False) hbl5).blk hG4 (fun h => h)
      have hA5 := (Eff.of_below (S := fun _ => False) hbl5).blk hA4 (fun h => h)
      have hb5 := (Eff.of_below (S := fun _ => False) hbl5).blk hb4 (fun h => h)
      have hB5 := hB4.trans (hbl5.mono hB4.size)
      clear hG4 hA4 hb4 hB4 hbl5
      have x0 : w5.cell? ⟨w.heap.size, 0, none⟩ = some (.int .i64 ac) := hA5.cell 0
      have y0 : w5.cell? ⟨w.heap.size + 1, 0, none⟩ = some (.int .i64 bc) := hb5.cell 0
      have y1 : w5.cell? ⟨w.heap.size + 1, 1, none⟩ = some (.int .i64 bf) := hb5.cell 1
      go_wp2_with fail
      clear x0 y0 y1
      cases hvb : validE bc bf with
      | false =>
        have h1 : Gt.founds ⟨ac, af, 0, F⟩ bc bf = false := by simp [Gt.founds, Gt.aboveB, hvb]
        have h2 : Gt.found ⟨ac, af, 0, F⟩ bc bf = ⟨ac, af, 0, F⟩ := by rw [Gt.found, h1]; rfl
        have hfd := found_any ⟨ac, af, 0, F⟩ bc bf _ hG5
        rw [h1, h2] at hfd
        refine hfd.mono ?_
        rintro e w6 ⟨rfl, hG6, hE6⟩
        have hA6 := hE6.blk hA5 (by omega)
        have hb6 := hE6.blk hb5 (by omega)
        have hB6 := hE6.below hB5 hB5.size (fun i hi => by omega)
        clear hfd h1 h2 hE6 hG5 hA5 hb5 hB5
        have x0 : w6.cell? ⟨w.heap.size + 1, 0, none⟩ = some (.int .i64 bc) := hb6.cell 0
        have x1 : w6.cell? ⟨w.heap.size + 1, 1, none⟩ = some (.int .i64 bf) := hb6.cell 1
        have HVB := hid hvb
        clear hvb
        go_wp2_with fail
        clear x0 x1
        refine (refValid_any bc bf _).mono ?_
        rintro e w7 ⟨rfl, hbl7⟩
        rw [HVB.out]
        have hG7 := (Eff.of_below (S := fun _ => False) hbl7).blk hG6 (fun h => h)
        have hA7 := (Eff.of_below (S := fun _ => False) hbl7).blk hA6 (fun h => h)
        have hb7 := (Eff.of_below (S := fun _ => False) hbl7).blk hb6 (fun h => h)
        have hB7 := hB6.trans (hbl7.mono hB6.size)
        clear hG6 hA6 hb6 hB6 hbl7
        have x0 : w7.cell? ⟨w.heap.size, 0, none⟩ = some (.int .i64 ac) := hA7.cell 0
        have x1 : w7.cell? ⟨w.heap.size, 1, none⟩ = some (.int .i64 af) := hA7.cell 1
        have y0 : w7.cell? ⟨w.heap.size + 1, 0, none⟩ = some (.int .i64 bc) := hb7.cell 0
        have y1 : w7.cell? ⟨w.heap.size + 1, 1, none⟩ = some (.int .i64 bf) := hb7.cell 1
        go_wp2_with fail
        clear x0 x1 y0 y1
        obtain ⟨v1, hv1⟩ : ∃ v1, v1 = ((w7.alloc (.cells #[.int .i64 ac, .int .i64 af] 28)).alloc (.cells #[.int .i64 2, .int .i64 5] 3)).alloc (.cells #[.int .i64 ac, .int .i64 af, .int .i64 hop, .slice (some ⟨w7.heap.size + 1, 0, none⟩) 2 2, .slice none 0 0] 32) := ⟨_, rfl⟩
        have hE1 : Blk v1 w7.heap.size [.int .i64 ac, .int .i64 af] 28 := by rw [hv1]; exact ((Blk.new w7 _ _).alloc _).alloc _
        have hM1 : Blk v1 (w7.heap.size + 1) [.int .i64 2, .int .i64 5] 3 := by
          rw [hv1, show w7.heap.size + 1 = (w7.alloc (.cells #[.int .i64 ac, .int .i64 af] 28)).heap.size from by simp]; exact (Blk.new _ _ _).alloc _
        have hR1 : Blk v1 (w7.heap.size + 1 + 1) [.int .i64 ac, .int .i64 af, .int .i64 hop, .slice (some ⟨w7.heap.size + 1, 0, none⟩) 2 2, .slice none 0 0] 32 := by
          rw [hv1, show w7.heap.size + 1 + 1 = ((w7.alloc (.cells #[.int .i64 ac, .int .i64 af] 28)).alloc (.cells #[.int .i64 2, .int .i64 5] 3)).heap.size from by simp]; exact Blk.new _ _ _
        have hG1 : Blk v1 G (Gt.mk ac af 0 F).cells 54 := by rw [hv1]; exact ((hG7.alloc _).alloc _).alloc _
        have hB1 : Below w.heap.size w v1 := by rw [hv1]; exact ((hB7.alloc hB7.size _).alloc (Nat.le_trans hB7.size (by simp)) _).alloc (Nat.le_trans hB7.size (by simp; omega)) _
        rw [← hv1]
        clear hv1
        have hs1 := sl_two hM1
        clear hM1
        have hE1 := hE1.drew
        have hR1 := hR1.drew
        have hG1 := hG1.drew
        have hB1 := hB1.drew
        have hs1 : Sl v1.drew _ _ := hs1
        refine wp_region_held_drew (S := fun w' => w'.cell? ⟨w7.heap.size, 0, none⟩ = some (.int .i64 ac) ∧ w'.cell? ⟨w7.heap.size, 1, none⟩ = some (.int .i64 af) ∧ w'.cell? ⟨w7.heap.size + 1 + 1, 0, none⟩ = some (.int .i64 ac) ∧ w'.cell? ⟨w7.heap.size + 1 + 1, 1, none⟩ = some (.int .i64 af) ∧ w'.cell? ⟨w7.heap.size + 1 + 1, 2, none⟩ = some (.int .i64 hop) ∧ w'.cell? ⟨w7.heap.size + 1 + 1, 3, none⟩ = some (.slice (some ⟨w7.heap.size + 1, 0, none⟩) 2 2) ∧ w'.cell? ⟨w7.heap.size + 1 + 1, 4, none⟩ = some (.slice none 0 0)) (by kernel_rfl) ?_ (fun hHeld => ?_)
        · (try dsimp only); (first | exact ⟨hE1.cell 0, hE1.cell 1, hR1.cell 0, hR1.cell 1, hR1.cell 2, hR1.cell 3, hR1.cell 4⟩ | exact ⟨hE2.cell 0, hE2.cell 1, hR2.cell 0, hR2.cell 1, hR2.cell 2, hR2.cell 3, hR2.cell 4⟩ | exact ⟨hE3.cell 0, hE3.cell 1, hR3.cell 0, hR3.cell 1, hR3.cell 2, hR3.cell 3, hR3.cell 4⟩ | exact ⟨hE4.cell 0, hE4.cell 1, hR4.cell 0, hR4.cell 1, hR4.cell 2, hR4.cell 3, hR4.cell 4⟩ | exact ⟨hE5.cell 0, hE5.cell 1, hR5.cell 0, hR5.cell 1, hR5.cell 2, hR5.cell 3, hR5.cell 4⟩ | exact ⟨hE6.cell 0, hE6.cell 1, hR6.cell 0, hR6.cell 1, hR6.cell 2, hR6.cell 3, hR6.cell 4⟩)
        refine held_take 0 ?_ rfl (by kernel_rfl) (by kernel_rfl) (by kernel_rfl) (fun _ _ _ h => h) (by rfl) ?_ hHeld ?_
        rotate_left
        · (intro w hSw; (try dsimp only at hSw); go_simp; try with_reducible rfl)
        try simp only [Act.put, List.setIfInBounds_toArray, List.set_cons_zero, List.set_cons_succ]
        refine held_take 1 ?_ rfl (by kernel_rfl) (by kernel_rfl) (by kernel_rfl) (fun _ _ _ h => h) (by rfl) ?_ hHeld ?_
        rotate_left
        · (intro w hSw; (try dsimp only at hSw); go_simp; try with_reducible rfl)
        try simp only [Act.put, List.setIfInBounds_toArray, List.set_cons_zero, List.set_cons_succ]
        refine held_take 2 ?_ rfl (by kernel_rfl) (by kernel_rfl) (by kernel_rfl) (fun _ _ _ h => h) (by rfl) ?_ hHeld ?_
        rotate_left
        · (intro w hSw; (try dsimp only at hSw); go_simp; try with_reducible rfl)
        try simp only [Act.put, List.setIfInBounds_toArray, List.set_cons_zero, List.set_cons_succ]
        refine held_take 4 ?_ rfl (by kernel_rfl) (by kernel_rfl) (by kernel_rfl) (fun _ _ _ h => h) (by rfl) ?_ hHeld ?_
        rotate_left
        · (intro w hSw; (try dsimp only at hSw); go_simp; try with_reducible rfl)
        try simp only [Act.put, List.setIfInBounds_toArray, List.set_cons_zero, List.set_cons_succ]
        refine held_one 3 rfl (by kernel_rfl) (by rfl) (fun K hK => ?_)
        go_simp
        refine (epoch_gt _ hG1).mono ?_
        rintro e v2 ⟨rfl, hb2⟩
        have hE2 := (Eff.of_below (S := fun _ => False) hb2).blk hE1 (fun h => h)
        have hG2 := (Eff.of_below (S := fun _ => False) hb2).blk hG1 (fun h => h)
        have hR2 := (Eff.of_below (S := fun _ => False) hb2).blk hR1 (fun h => h)
        have hs2 := hs1.eff (Eff.of_below (S := fun _ => False) hb2) (fun _ _ h => h)
        have hB2 := hB1.trans (hb2.mono hB1.size)
        clear hE1 hG1 hR1 hs1 hB1 hb2
        refine hK.out _ _ ?_ (fun hHeld2 => ?_)
        · (try dsimp only); (first | exact ⟨hE1.cell 0, hE1.cell 1, hR1.cell 0, hR1.cell 1, hR1.cell 2, hR1.cell 3, hR1.cell 4⟩ | exact ⟨hE2.cell 0, hE2.cell 1, hR2.cell 0, hR2.cell 1, hR2.cell 2, hR2.cell 3, hR2.cell 4⟩ | exact ⟨hE3.cell 0, hE3.cell 1, hR3.cell 0, hR3.cell 1, hR3.cell 2, hR3.cell 3, hR3.cell 4⟩ | exact ⟨hE4.cell 0, hE4.cell 1, hR4.cell 0, hR4.cell 1, hR4.cell 2, hR4.cell 3, hR4.cell 4⟩ | exact ⟨hE5.cell 0, hE5.cell 1, hR5.cell 0, hR5.cell 1, hR5.cell 2, hR5.cell 3, hR5.cell 4⟩ | exact ⟨hE6.cell 0, hE6.cell 1, hR6.cell 0, hR6.cell 1, hR6.cell 2, hR6.cell 3, hR6.cell 4⟩)
        clear hK K hHeld
        have hHeld := hHeld2
        clear hHeld2
        try simp only [Act.put, List.setIfInBounds_toArray, List.set_cons_zero, List.set_cons_succ]
        refine held_one 5 rfl (by kernel_rfl) (by rfl) (fun K hK => ?_)
        go_simp
        refine (same_gt ac af _).mono ?_
        rintro e v3 ⟨rfl, hb3⟩
        have hE3 := (Eff.of_below (S := fun _ => False) hb3).blk hE2 (fun h => h)
        have hG3 := (Eff.of_below (S := fun _ => False) hb3).blk hG2 (fun h => h)
        have hR3 := (Eff.of_below (S := fun _ => False) hb3).blk hR2 (fun h => h)
        have hs3 := hs2.eff (Eff.of_below (S := fun _ => False) hb3) (fun _ _ h => h)
        have hB3 := hB2.trans (hb3.mono hB2.size)
        clear hE2 hG2 hR2 hs2 hB2 hb3
        refine hK.out _ _ ?_ (fun hHeld2 => ?_)
        · (try dsimp only); (first | exact ⟨hE1.cell 0, hE1.cell 1, hR1.cell 0, hR1.cell 1, hR1.cell 2, hR1.cell 3, hR1.cell 4⟩ | exact ⟨hE2.cell 0, hE2.cell 1, hR2.cell 0, hR2.cell 1, hR2.cell 2, hR2.cell 3, hR2.cell 4⟩ | exact ⟨hE3.cell 0, hE3.cell 1, hR3.cell 0, hR3.cell 1, hR3.cell 2, hR3.cell 3, hR3.cell 4⟩ | exact ⟨hE4.cell 0, hE4.cell 1, hR4.cell 0, hR4.cell 1, hR4.cell 2, hR4.cell 3, hR4.cell 4⟩ | exact ⟨hE5.cell 0, hE5.cell 1, hR5.cell 0, hR5.cell 1, hR5.cell 2, hR5.cell 3, hR5.cell 4⟩ | exact ⟨hE6.cell 0, hE6.cell 1, hR6.cell 0, hR6.cell 1, hR6.cell 2, hR6.cell 3, hR6.cell 4⟩)
        clear hK K hHeld
        have hHeld := hHeld2
        clear hHeld2
        try simp only [Act.put, List.setIfInBounds_toArray, List.set_cons_zero, List.set_cons_succ]
        refine held_take 6 ?_ rfl (by kernel_rfl) (by kernel_rfl) (by kernel_rfl) (fun _ _ _ h => h) (by rfl) ?_ hHeld ?_
        rotate_left
        · (intro w hSw; (try dsimp only at hSw); go_simp; try with_reducible rfl)
        try simp only [Act.put, List.setIfInBounds_toArray, List.set_cons_zero, List.set_cons_succ]
        refine held_take 7 ?_ rfl (by kernel_rfl) (by kernel_rfl) (by kernel_rfl) (fun _ _ _ h => h) (by rfl) ?_ hHeld ?_
        rotate_left
        · (intro w hSw; (try dsimp only at hSw); go_simp; try with_reducible rfl)
        try simp only [Act.put, List.setIfInBounds_toArray, List.set_cons_zero, List.set_cons_succ]
        refine held_take 8 ?_ rfl (by kernel_rfl) (by kernel_rfl) (by kernel_rfl) (fun _ _ _ h => h) (by rfl) ?_ hHeld ?_
        rotate_left
        · (intro w hSw; (try dsimp only at hSw); go_simp; try with_reducible rfl)
        try simp only [Act.put, List.setIfInBounds_toArray, List.set_cons_zero, List.set_cons_succ]
        refine held_one 9 rfl (by kernel_rfl) (by rfl) (fun K hK => ?_)
        go_simp
        refine (hop_gt _ hG3).mono ?_
        rintro e w' ⟨rfl, rfl⟩
        refine hK.out _ _ ?_ (fun hHeld2 => ?_)
        · (try dsimp only); (first | exact ⟨hE1.cell 0, hE1.cell 1, hR1.cell 0, hR1.cell 1, hR1.cell 2, hR1.cell 3, hR1.cell 4⟩ | exact ⟨hE2.cell 0, hE2.cell 1, hR2.cell 0, hR2.cell 1, hR2.cell 2, hR2.cell 3, hR2.cell 4⟩ | exact ⟨hE3.cell 0, hE3.cell 1, hR3.cell 0, hR3.cell 1, hR3.cell 2, hR3.cell 3, hR3.cell 4⟩ | exact ⟨hE4.cell 0, hE4.cell 1, hR4.cell 0, hR4.cell 1, hR4.cell 2, hR4.cell 3, hR4.cell 4⟩ | exact ⟨hE5.cell 0, hE5.cell 1, hR5.cell 0, hR5.cell 1, hR5.cell 2, hR5.cell 3, hR5.cell 4⟩ | exact ⟨hE6.cell 0, hE6.cell 1, hR6.cell 0, hR6.cell 1, hR6.cell 2, hR6.cell 3, hR6.cell 4⟩)
        clear hK K hHeld
        have hHeld := hHeld2
        clear hHeld2
        try simp only [Act.put, List.setIfInBounds_toArray, List.set_cons_zero, List.set_cons_succ]
        refine held_take 10 ?_ rfl (by kernel_rfl) (by kernel_rfl) (by kernel_rfl) (fun _ _ _ h => h) (by rfl) ?_ hHeld ?_
        rotate_left
        · (intro w hSw; (try dsimp only at hSw); go_simp; try with_reducible rfl)
        try simp only [Act.put, List.setIfInBounds_toArray, List.set_cons_zero, List.set_cons_succ]
        refine held_take 11 ?_ rfl (by kernel_rfl) (by kernel_rfl) (by kernel_rfl) (fun _ _ _ h => h) (by rfl) ?_ hHeld ?_
        rotate_left
        · (intro w hSw; (try dsimp only at hSw); go_simp; try with_reducible rfl)
        try simp only [Act.put, List.setIfInBounds_toArray, List.set_cons_zero, List.set_cons_succ]
        refine held_take 12 ?_ rfl (by kernel_rfl) (by kernel_rfl) (by kernel_rfl) (fun _ _ _ h => h) (by rfl) ?_ hHeld ?_
        rotate_left
        · (intro w hSw; (try dsimp only at hSw); go_simp; try with_reducible rfl)
        try simp only [Act.put, List.setIfInBounds_toArray, List.set_cons_zero, List.set_cons_succ]
        refine held_take 13 ?_ rfl (by kernel_rfl) (by kernel_rfl) (by kernel_rfl) (fun _ _ _ h => h) (by rfl) ?_ hHeld ?_
        rotate_left
        · (intro w hSw; (try dsimp only at hSw); go_simp; try with_reducible rfl)
        try simp only [Act.put, List.setIfInBounds_toArray, List.set_cons_zero, List.set_cons_succ]
        refine held_take 14 ?_ rfl (by kernel_rfl) (by kernel_rfl) (by kernel_rfl) (fun _ _ _ h => h) (by rfl) ?_ hHeld ?_
        rotate_left
        · (intro w hSw; (try dsimp only at hSw); go_simp; try with_reducible rfl)
        try simp only [Act.put, List.setIfInBounds_toArray, List.set_cons_zero, List.set_cons_succ]
        refine held_take 16 ?_ rfl (by kernel_rfl) (by kernel_rfl) (by kernel_rfl) (fun _ _ _ h => h) (by rfl) ?_ hHeld ?_
        rotate_left
        · (intro w hSw; (try dsimp only at hSw); go_simp; try with_reducible rfl)
        try simp only [Act.put, List.setIfInBounds_toArray, List.set_cons_zero, List.set_cons_succ]
        refine held_take 17 ?_ rfl (by kernel_rfl) (by kernel_rfl) (by kernel_rfl) (fun _ _ _ h => h) (by rfl) ?_ hHeld ?_
        rotate_left
        · (intro w hSw; (try dsimp only at hSw); go_simp; try with_reducible rfl)
        try simp only [Act.put, List.setIfInBounds_toArray, List.set_cons_zero, List.set_cons_succ]
        refine held_one 15 rfl (by kernel_rfl) (by rfl) (fun K hK => ?_)
        go_simp
        refine (would_gt hop 5 5 _ _ hG3 hs3 (would_up HVA.out hFa)).mono ?_
        rintro e v4 ⟨rfl, hb4⟩
        have hE4 := (Eff.of_below (S := fun _ => False) hb4).blk hE3 (fun h => h)
        have hG4 := (Eff.of_below (S := fun _ => False) hb4).blk hG3 (fun h => h)
        have hR4 := (Eff.of_below (S := fun _ => False) hb4).blk hR3 (fun h => h)
        have hs4 := hs3.eff (Eff.of_below (S := fun _ => False) hb4) (fun _ _ h => h)
        have hB4 := hB3.trans (hb4.mono hB3.size)
        clear hE3 hG3 hR3 hs3 hB3 hb4
        refine hK.out _ _ ?_ (fun hHeld2 => ?_)
        · (try dsimp only); (first | exact ⟨hE1.cell 0, hE1.cell 1, hR1.cell 0, hR1.cell 1, hR1.cell 2, hR1.cell 3, hR1.cell 4⟩ | exact ⟨hE2.cell 0, hE2.cell 1, hR2.cell 0, hR2.cell 1, hR2.cell 2, hR2.cell 3, hR2.cell 4⟩ | exact ⟨hE3.cell 0, hE3.cell 1, hR3.cell 0, hR3.cell 1, hR3.cell 2, hR3.cell 3, hR3.cell 4⟩ | exact ⟨hE4.cell 0, hE4.cell 1, hR4.cell 0, hR4.cell 1, hR4.cell 2, hR4.cell 3, hR4.cell 4⟩ | exact ⟨hE5.cell 0, hE5.cell 1, hR5.cell 0, hR5.cell 1, hR5.cell 2, hR5.cell 3, hR5.cell 4⟩ | exact ⟨hE6.cell 0, hE6.cell 1, hR6.cell 0, hR6.cell 1, hR6.cell 2, hR6.cell 3, hR6.cell 4⟩)
        clear hK K hHeld
        have hHeld := hHeld2
        clear hHeld2
        try simp only [Act.put, List.setIfInBounds_toArray, List.set_cons_zero, List.set_cons_succ]
        refine held_take 18 ?_ rfl (by kernel_rfl) (by kernel_rfl) (by kernel_rfl) (fun _ _ _ h => h) (by rfl) ?_ hHeld ?_
        rotate_left
        · (intro w hSw; (try dsimp only at hSw); go_simp; try with_reducible rfl)
        try simp only [Act.put, List.setIfInBounds_toArray, List.set_cons_zero, List.set_cons_succ]
        refine held_take 19 ?_ rfl (by kernel_rfl) (by kernel_rfl) (by kernel_rfl) (fun _ _ _ h => h) (by rfl) ?_ hHeld ?_
        rotate_left
        · (intro w hSw; (try dsimp only at hSw); go_simp; try with_reducible rfl)
        try simp only [Act.put, List.setIfInBounds_toArray, List.set_cons_zero, List.set_cons_succ]
        refine held_take 20 ?_ rfl (by kernel_rfl) (by kernel_rfl) (by kernel_rfl) (fun _ _ _ h => h) (by rfl) ?_ hHeld ?_
        rotate_left
        · (intro w hSw; (try dsimp only at hSw); go_simp; try with_reducible rfl)
        try simp only [Act.put, List.setIfInBounds_toArray, List.set_cons_zero, List.set_cons_succ]
        refine held_take 21 ?_ rfl (by kernel_rfl) (by kernel_rfl) (by kernel_rfl) (fun _ _ _ h => h) (by rfl) ?_ hHeld ?_
        rotate_left
        · (intro w hSw; (try dsimp only at hSw); go_simp; try with_reducible rfl)
        try simp only [Act.put, List.setIfInBounds_toArray, List.set_cons_zero, List.set_cons_succ]
        refine held_take 22 ?_ rfl (by kernel_rfl) (by kernel_rfl) (by kernel_rfl) (fun _ _ _ h => h) (by rfl) ?_ hHeld ?_
        rotate_left
        · (intro w hSw; (try dsimp only at hSw); go_simp; try with_reducible rfl)
        try simp only [Act.put, List.setIfInBounds_toArray, List.set_cons_zero, List.set_cons_succ]
        refine held_one 23 rfl (by kernel_rfl) (by rfl) (fun K hK => ?_)
        go_simp
        refine (would_gt hop 5 2 _ _ hG4 hs4 would_off).mono ?_
        rintro e v5 ⟨rfl, hb5⟩
        have hE5 := (Eff.of_below (S := fun _ => False) hb5).blk hE4 (fun h => h)
        have hG5 := (Eff.of_below (S := fun _ => False) hb5).blk hG4 (fun h => h)
        have hR5 := (Eff.of_below (S := fun _ => False) hb5).blk hR4 (fun h => h)
        have hs5 := hs4.eff (Eff.of_below (S := fun _ => False) hb5) (fun _ _ h => h)
        have hB5 := hB4.trans (hb5.mono hB4.size)
        clear hE4 hG4 hR4 hs4 hB4 hb5
        refine hK.out _ _ ?_ (fun hHeld2 => ?_)
        · (try dsimp only); (first | exact ⟨hE1.cell 0, hE1.cell 1, hR1.cell 0, hR1.cell 1, hR1.cell 2, hR1.cell 3, hR1.cell 4⟩ | exact ⟨hE2.cell 0, hE2.cell 1, hR2.cell 0, hR2.cell 1, hR2.cell 2, hR2.cell 3, hR2.cell 4⟩ | exact ⟨hE3.cell 0, hE3.cell 1, hR3.cell 0, hR3.cell 1, hR3.cell 2, hR3.cell 3, hR3.cell 4⟩ | exact ⟨hE4.cell 0, hE4.cell 1, hR4.cell 0, hR4.cell 1, hR4.cell 2, hR4.cell 3, hR4.cell 4⟩ | exact ⟨hE5.cell 0, hE5.cell 1, hR5.cell 0, hR5.cell 1, hR5.cell 2, hR5.cell 3, hR5.cell 4⟩ | exact ⟨hE6.cell 0, hE6.cell 1, hR6.cell 0, hR6.cell 1, hR6.cell 2, hR6.cell 3, hR6.cell 4⟩)
        clear hK K hHeld
        have hHeld := hHeld2
        clear hHeld2
        try simp only [Act.put, List.setIfInBounds_toArray, List.set_cons_zero, List.set_cons_succ]
        refine held_take 24 ?_ rfl (by kernel_rfl) (by kernel_rfl) (by kernel_rfl) (fun _ _ _ h => h) (by rfl) ?_ hHeld ?_
        rotate_left
        · (intro w hSw; (try dsimp only at hSw); go_simp; try with_reducible rfl)
        try simp only [Act.put, List.setIfInBounds_toArray, List.set_cons_zero, List.set_cons_succ]
        refine held_take 25 ?_ rfl (by kernel_rfl) (by kernel_rfl) (by kernel_rfl) (fun _ _ _ h => h) (by rfl) ?_ hHeld ?_
        rotate_left
        · (intro w hSw; (try dsimp only at hSw); go_simp; try with_reducible rfl)
        try simp only [Act.put, List.setIfInBounds_toArray, List.set_cons_zero, List.set_cons_succ]
        refine held_take 26 ?_ rfl (by kernel_rfl) (by kernel_rfl) (by kernel_rfl) (fun _ _ _ h => h) (by rfl) ?_ hHeld ?_
        rotate_left
        · (intro w hSw; (try dsimp only at hSw); go_simp; try with_reducible rfl)
        try simp only [Act.put, List.setIfInBounds_toArray, List.set_cons_zero, List.set_cons_succ]
        refine held_take 27 ?_ rfl (by kernel_rfl) (by kernel_rfl) (by kernel_rfl) (fun _ _ _ h => h) (by rfl) ?_ hHeld ?_
        rotate_left
        · (intro w hSw; (try dsimp only at hSw); go_simp; try with_reducible rfl)
        try simp only [Act.put, List.setIfInBounds_toArray, List.set_cons_zero, List.set_cons_succ]
        refine held_take 28 ?_ rfl (by kernel_rfl) (by kernel_rfl) (by kernel_rfl) (fun _ _ _ h => h) (by rfl) ?_ hHeld ?_
        rotate_left
        · (intro w hSw; (try dsimp only at hSw); go_simp; try with_reducible rfl)
        try simp only [Act.put, List.setIfInBounds_toArray, List.set_cons_zero, List.set_cons_succ]
        refine held_one 29 rfl (by kernel_rfl) (by rfl) (fun K hK => ?_)
        go_simp
        refine (would_gt hop 3 3 _ _ hG5 hs5 would_out).mono ?_
        rintro e v6 ⟨rfl, hb6⟩
        have hE6 := (Eff.of_below (S := fun _ => False) hb6).blk hE5 (fun h => h)
        have hG6 := (Eff.of_below (S := fun _ => False) hb6).blk hG5 (fun h => h)
        have hR6 := (Eff.of_below (S := fun _ => False) hb6).blk hR5 (fun h => h)
        have hs6 := hs5.eff (Eff.of_below (S := fun _ => False) hb6) (fun _ _ h => h)
        have hB6 := hB5.trans (hb6.mono hB5.size)
        clear hE5 hG5 hR5 hs5 hB5 hb6
        refine hK.out _ _ ?_ (fun hHeld2 => ?_)
        · (try dsimp only); (first | exact ⟨hE1.cell 0, hE1.cell 1, hR1.cell 0, hR1.cell 1, hR1.cell 2, hR1.cell 3, hR1.cell 4⟩ | exact ⟨hE2.cell 0, hE2.cell 1, hR2.cell 0, hR2.cell 1, hR2.cell 2, hR2.cell 3, hR2.cell 4⟩ | exact ⟨hE3.cell 0, hE3.cell 1, hR3.cell 0, hR3.cell 1, hR3.cell 2, hR3.cell 3, hR3.cell 4⟩ | exact ⟨hE4.cell 0, hE4.cell 1, hR4.cell 0, hR4.cell 1, hR4.cell 2, hR4.cell 3, hR4.cell 4⟩ | exact ⟨hE5.cell 0, hE5.cell 1, hR5.cell 0, hR5.cell 1, hR5.cell 2, hR5.cell 3, hR5.cell 4⟩ | exact ⟨hE6.cell 0, hE6.cell 1, hR6.cell 0, hR6.cell 1, hR6.cell 2, hR6.cell 3, hR6.cell 4⟩)
        clear hK K hHeld
        have hHeld := hHeld2
        clear hHeld2
        try simp only [Act.put, List.setIfInBounds_toArray, List.set_cons_zero, List.set_cons_succ]
        refine held_take 30 ?_ rfl (by kernel_rfl) (by kernel_rfl) (by kernel_rfl) (fun _ _ _ h => h) (by rfl) ?_ hHeld ?_
        rotate_left
        · (intro w hSw; (try dsimp only at hSw); go_simp; try with_reducible rfl)
        try simp only [Act.put, List.setIfInBounds_toArray, List.set_cons_zero, List.set_cons_succ]
        refine held_take 31 ?_ rfl (by kernel_rfl) (by kernel_rfl) (by kernel_rfl) (fun _ _ _ h => h) (by rfl) ?_ hHeld ?_
        rotate_left
        · (intro w hSw; (try dsimp only at hSw); go_simp; try with_reducible rfl)
        try simp only [Act.put, List.setIfInBounds_toArray, List.set_cons_zero, List.set_cons_succ]
        refine held_take 32 ?_ rfl (by kernel_rfl) (by kernel_rfl) (by kernel_rfl) (fun _ _ _ h => h) (by rfl) ?_ hHeld ?_
        rotate_left
        · (intro w hSw; (try dsimp only at hSw); go_simp; try with_reducible rfl)
        try simp only [Act.put, List.setIfInBounds_toArray, List.set_cons_zero, List.set_cons_succ]
        refine wpAnyH_done (by kernel_rfl) ?_ _
        clear hHeld
        go_wp2
        go_ret
        exact ⟨rfl, hB6⟩
      | true =>
        by_cases hFb : F < bc
        · cases hab : lessE ac af bc bf with
          | true =>
            have h1 : Gt.founds ⟨ac, af, 0, F⟩ bc bf = true := by simp [Gt.founds, Gt.aboveB, hvb, hFb, hab]
            have h2 : Gt.found ⟨ac, af, 0, F⟩ bc bf = ⟨bc, bf, 0, F⟩ := by rw [Gt.found, h1]; rfl
            have hfd := found_any ⟨ac, af, 0, F⟩ bc bf _ hG5
            rw [h1, h2] at hfd
            refine hfd.mono ?_
            rintro e w6 ⟨rfl, hG6, hE6⟩
            have hA6 := hE6.blk hA5 (by omega)
            have hb6 := hE6.blk hb5 (by omega)
            have hB6 := hE6.below hB5 hB5.size (fun i hi => by omega)
            clear hfd h1 h2 hE6 hG5 hA5 hb5 hB5
            have x0 : w6.cell? ⟨w.heap.size + 1, 0, none⟩ = some (.int .i64 bc) := hb6.cell 0
            have x1 : w6.cell? ⟨w.heap.size + 1, 1, none⟩ = some (.int .i64 bf) := hb6.cell 1
            have HVB := hid hvb
            clear hvb
            go_wp2_with fail
            clear x0 x1
            refine (refValid_any bc bf _).mono ?_
            rintro e w7 ⟨rfl, hbl7⟩
            rw [HVB.out]
            have hG7 := (Eff.of_below (S := fun _ => False) hbl7).blk hG6 (fun h => h)
            have hA7 := (Eff.of_below (S := fun _ => False) hbl7).blk hA6 (fun h => h)
            have hb7 := (Eff.of_below (S := fun _ => False) hbl7).blk hb6 (fun h => h)
            have hB7 := hB6.trans (hbl7.mono hB6.size)
            clear hG6 hA6 hb6 hB6 hbl7
            have x0 : w7.cell? ⟨w.heap.size, 0, none⟩ = some (.int .i64 ac) := hA7.cell 0
            have x1 : w7.cell? ⟨w.heap.size, 1, none⟩ = some (.int .i64 af) := hA7.cell 1
            have y0 : w7.cell? ⟨w.heap.size + 1, 0, none⟩ = some (.int .i64 bc) := hb7.cell 0
            have y1 : w7.cell? ⟨w.heap.size + 1, 1, none⟩ = some (.int .i64 bf) := hb7.cell 1
            go_wp2_with fail
            clear x0 x1 y0 y1
            refine (refLess_any ac af bc bf _).mono ?_
            rintro e w8 ⟨rfl, hbl8⟩
            rw [hab]
            have hG8 := (Eff.of_below (S := fun _ => False) hbl8).blk hG7 (fun h => h)
            have hA8 := (Eff.of_below (S := fun _ => False) hbl8).blk hA7 (fun h => h)
            have hb8 := (Eff.of_below (S := fun _ => False) hbl8).blk hb7 (fun h => h)
            have hB8 := hB7.trans (hbl8.mono hB7.size)
            clear hG7 hA7 hb7 hB7 hbl8 hab
            have x0 : w8.cell? ⟨w.heap.size, 0, none⟩ = some (.int .i64 ac) := hA8.cell 0
            have x1 : w8.cell? ⟨w.heap.size, 1, none⟩ = some (.int .i64 af) := hA8.cell 1
            have y0 : w8.cell? ⟨w.heap.size + 1, 0, none⟩ = some (.int .i64 bc) := hb8.cell 0
            have y1 : w8.cell? ⟨w.heap.size + 1, 1, none⟩ = some (.int .i64 bf) := hb8.cell 1
            have z0 : (w8.alloc (.cells #[.int .i64 ac, .int .i64 af] 28)).cell? ⟨w.heap.size + 1, 0, none⟩ = some (.int .i64 bc) := (hb8.alloc _).cell 0
            have z1 : (w8.alloc (.cells #[.int .i64 ac, .int .i64 af] 28)).cell? ⟨w.heap.size + 1, 1, none⟩ = some (.int .i64 bf) := (hb8.alloc _).cell 1
            go_wp2_with fail
            clear z0 z1
            clear x0 x1 y0 y1
            obtain ⟨v1, hv1⟩ : ∃ v1, v1 = ((w8.alloc (.cells #[.int .i64 bc, .int .i64 bf] 28)).alloc (.cells #[.int .i64 2, .int .i64 5] 3)).alloc (.cells #[.int .i64 bc, .int .i64 bf, .int .i64 hop, .slice (some ⟨w8.heap.size + 1, 0, none⟩) 2 2, .slice none 0 0] 32) := ⟨_, rfl⟩
            have hE1 : Blk v1 w8.heap.size [.int .i64 bc, .int .i64 bf] 28 := by rw [hv1]; exact ((Blk.new w8 _ _).alloc _).alloc _
            have hM1 : Blk v1 (w8.heap.size + 1) [.int .i64 2, .int .i64 5] 3 := by
              rw [hv1, show w8.heap.size + 1 = (w8.alloc (.cells #[.int .i64 bc, .int .i64 bf] 28)).heap.size from by simp]; exact (Blk.new _ _ _).alloc _
            have hR1 : Blk v1 (w8.heap.size + 1 + 1) [.int .i64 bc, .int .i64 bf, .int .i64 hop, .slice (some ⟨w8.heap.size + 1, 0, none⟩) 2 2, .slice none 0 0] 32 := by
              rw [hv1, show w8.heap.size + 1 + 1 = ((w8.alloc (.cells #[.int .i64 bc, .int .i64 bf] 28)).alloc (.cells #[.int .i64 2, .int .i64 5] 3)).heap.size from by simp]; exact Blk.new _ _ _
            have hG1 : Blk v1 G (Gt.mk bc bf 0 F).cells 54 := by rw [hv1]; exact ((hG8.alloc _).alloc _).alloc _
            have hB1 : Below w.heap.size w v1 := by rw [hv1]; exact ((hB8.alloc hB8.size _).alloc (Nat.le_trans hB8.size (by simp)) _).alloc (Nat.le_trans hB8.size (by simp; omega)) _
            rw [← hv1]
            clear hv1
            have hs1 := sl_two hM1
            clear hM1
            have hE1 := hE1.drew
            have hR1 := hR1.drew
            have hG1 := hG1.drew
            have hB1 := hB1.drew
            have hs1 : Sl v1.drew _ _ := hs1
            refine wp_region_held_drew (S := fun w' => w'.cell? ⟨w8.heap.size, 0, none⟩ = some (.int .i64 bc) ∧ w'.cell? ⟨w8.heap.size, 1, none⟩ = some (.int .i64 bf) ∧ w'.cell? ⟨w8.heap.size + 1 + 1, 0, none⟩ = some (.int .i64 bc) ∧ w'.cell? ⟨w8.heap.size + 1 + 1, 1, none⟩ = some (.int .i64 bf) ∧ w'.cell? ⟨w8.heap.size + 1 + 1, 2, none⟩ = some (.int .i64 hop) ∧ w'.cell? ⟨w8.heap.size + 1 + 1, 3, none⟩ = some (.slice (some ⟨w8.heap.size + 1, 0, none⟩) 2 2) ∧ w'.cell? ⟨w8.heap.size + 1 + 1, 4, none⟩ = some (.slice none 0 0)) (by kernel_rfl) ?_ (fun hHeld => ?_)
            · (try dsimp only); (first | exact ⟨hE1.cell 0, hE1.cell 1, hR1.cell 0, hR1.cell 1, hR1.cell 2, hR1.cell 3, hR1.cell 4⟩ | exact ⟨hE2.cell 0, hE2.cell 1, hR2.cell 0, hR2.cell 1, hR2.cell 2, hR2.cell 3, hR2.cell 4⟩ | exact ⟨hE3.cell 0, hE3.cell 1, hR3.cell 0, hR3.cell 1, hR3.cell 2, hR3.cell 3, hR3.cell 4⟩ | exact ⟨hE4.cell 0, hE4.cell 1, hR4.cell 0, hR4.cell 1, hR4.cell 2, hR4.cell 3, hR4.cell 4⟩ | exact ⟨hE5.cell 0, hE5.cell 1, hR5.cell 0, hR5.cell 1, hR5.cell 2, hR5.cell 3, hR5.cell 4⟩ | exact ⟨hE6.cell 0, hE6.cell 1, hR6.cell 0, hR6.cell 1, hR6.cell 2, hR6.cell 3, hR6.cell 4⟩)
            refine held_take 0 ?_ rfl (by kernel_rfl) (by kernel_rfl) (by kernel_rfl) (fun _ _ _ h => h) (by rfl) ?_ hHeld ?_
            rotate_left
            · (intro w hSw; (try dsimp only at hSw); go_simp; try with_reducible rfl)
            try simp only [Act.put, List.setIfInBounds_toArray, List.set_cons_zero, List.set_cons_succ]
            refine held_take 1 ?_ rfl (by kernel_rfl) (by kernel_rfl) (by kernel_rfl) (fun _ _ _ h => h) (by rfl) ?_ hHeld ?_
            rotate_left
            · (intro w hSw; (try dsimp only at hSw); go_simp; try with_reducible rfl)
            try simp only [Act.put, List.setIfInBounds_toArray, List.set_cons_zero, List.set_cons_succ]
            refine held_take 2 ?_ rfl (by kernel_rfl) (by kernel_rfl) (by kernel_rfl) (fun _ _ _ h => h) (by rfl) ?_ hHeld ?_
            rotate_left
            · (intro w hSw; (try dsimp only at hSw); go_simp; try with_reducible rfl)
            try simp only [Act.put, List.setIfInBounds_toArray, List.set_cons_zero, List.set_cons_succ]
            refine held_take 4 ?_ rfl (by kernel_rfl) (by kernel_rfl) (by kernel_rfl) (fun _ _ _ h => h) (by rfl) ?_ hHeld ?_
            rotate_left
            · (intro w hSw; (try dsimp only at hSw); go_simp; try with_reducible rfl)
            try simp only [Act.put, List.setIfInBounds_toArray, List.set_cons_zero, List.set_cons_succ]
            refine held_one 3 rfl (by kernel_rfl) (by rfl) (fun K hK => ?_)
            go_simp
            refine (epoch_gt _ hG1).mono ?_
            rintro e v2 ⟨rfl, hb2⟩
            have hE2 := (Eff.of_below (S := fun _ => False) hb2).blk hE1 (fun h => h)
            have hG2 := (Eff.of_below (S := fun _ => False) hb2).blk hG1 (fun h => h)
            have hR2 := (Eff.of_below (S := fun _ => False) hb2).blk hR1 (fun h => h)
            have hs2 := hs1.eff (Eff.of_below (S := fun _ => False) hb2) (fun _ _ h => h)
            have hB2 := hB1.trans (hb2.mono hB1.size)
            clear hE1 hG1 hR1 hs1 hB1 hb2
            refine hK.out _ _ ?_ (fun hHeld2 => ?_)
            · (try dsimp only); (first | exact ⟨hE1.cell 0, hE1.cell 1, hR1.cell 0, hR1.cell 1, hR1.cell 2, hR1.cell 3, hR1.cell 4⟩ | exact ⟨hE2.cell 0, hE2.cell 1, hR2.cell 0, hR2.cell 1, hR2.cell 2, hR2.cell 3, hR2.cell 4⟩ | exact ⟨hE3.cell 0, hE3.cell 1, hR3.cell 0, hR3.cell 1, hR3.cell 2, hR3.cell 3, hR3.cell 4⟩ | exact ⟨hE4.cell 0, hE4.cell 1, hR4.cell 0, hR4.cell 1, hR4.cell 2, hR4.cell 3, hR4.cell 4⟩ | exact ⟨hE5.cell 0, hE5.cell 1, hR5.cell 0, hR5.cell 1, hR5.cell 2, hR5.cell 3, hR5.cell 4⟩ | exact ⟨hE6.cell 0, hE6.cell 1, hR6.cell 0, hR6.cell 1, hR6.cell 2, hR6.cell 3, hR6.cell 4⟩)
            clear hK K hHeld
            have hHeld := hHeld2
            clear hHeld2
            try simp only [Act.put, List.setIfInBounds_toArray, List.set_cons_zero, List.set_cons_succ]
            refine held_one 5 rfl (by kernel_rfl) (by rfl) (fun K hK => ?_)
            go_simp
            refine (same_gt bc bf _).mono ?_
            rintro e v3 ⟨rfl, hb3⟩
            have hE3 := (Eff.of_below (S := fun _ => False) hb3).blk hE2 (fun h => h)
            have hG3 := (Eff.of_below (S := fun _ => False) hb3).blk hG2 (fun h => h)
            have hR3 := (Eff.of_below (S := fun _ => False) hb3).blk hR2 (fun h => h)
            have hs3 := hs2.eff (Eff.of_below (S := fun _ => False) hb3) (fun _ _ h => h)
            have hB3 := hB2.trans (hb3.mono hB2.size)
            clear hE2 hG2 hR2 hs2 hB2 hb3
            refine hK.out _ _ ?_ (fun hHeld2 => ?_)
            · (try dsimp only); (first | exact ⟨hE1.cell 0, hE1.cell 1, hR1.cell 0, hR1.cell 1, hR1.cell 2, hR1.cell 3, hR1.cell 4⟩ | exact ⟨hE2.cell 0, hE2.cell 1, hR2.cell 0, hR2.cell 1, hR2.cell 2, hR2.cell 3, hR2.cell 4⟩ | exact ⟨hE3.cell 0, hE3.cell 1, hR3.cell 0, hR3.cell 1, hR3.cell 2, hR3.cell 3, hR3.cell 4⟩ | exact ⟨hE4.cell 0, hE4.cell 1, hR4.cell 0, hR4.cell 1, hR4.cell 2, hR4.cell 3, hR4.cell 4⟩ | exact ⟨hE5.cell 0, hE5.cell 1, hR5.cell 0, hR5.cell 1, hR5.cell 2, hR5.cell 3, hR5.cell 4⟩ | exact ⟨hE6.cell 0, hE6.cell 1, hR6.cell 0, hR6.cell 1, hR6.cell 2, hR6.cell 3, hR6.cell 4⟩)
            clear hK K hHeld
            have hHeld := hHeld2
            clear hHeld2
            try simp only [Act.put, List.setIfInBounds_toArray, List.set_cons_zero, List.set_cons_succ]
            refine held_take 6 ?_ rfl (by kernel_rfl) (by kernel_rfl) (by kernel_rfl) (fun _ _ _ h => h) (by rfl) ?_ hHeld ?_
            rotate_left
            · (intro w hSw; (try dsimp only at hSw); go_simp; try with_reducible rfl)
            try simp only [Act.put, List.setIfInBounds_toArray, List.set_cons_zero, List.set_cons_succ]
            refine held_take 7 ?_ rfl (by kernel_rfl) (by kernel_rfl) (by kernel_rfl) (fun _ _ _ h => h) (by rfl) ?_ hHeld ?_
            rotate_left
            · (intro w hSw; (try dsimp only at hSw); go_simp; try with_reducible rfl)
            try simp only [Act.put, List.setIfInBounds_toArray, List.set_cons_zero, List.set_cons_succ]
            refine held_take 8 ?_ rfl (by kernel_rfl) (by kernel_rfl) (by kernel_rfl) (fun _ _ _ h => h) (by rfl) ?_ hHeld ?_
            rotate_left
            · (intro w hSw; (try dsimp only at hSw); go_simp; try with_reducible rfl)
            try simp only [Act.put, List.setIfInBounds_toArray, List.set_cons_zero, List.set_cons_succ]
            refine held_one 9 rfl (by kernel_rfl) (by rfl) (fun K hK => ?_)
            go_simp
            refine (hop_gt _ hG3).mono ?_
            rintro e w' ⟨rfl, rfl⟩
            refine hK.out _ _ ?_ (fun hHeld2 => ?_)
            · (try dsimp only); (first | exact ⟨hE1.cell 0, hE1.cell 1, hR1.cell 0, hR1.cell 1, hR1.cell 2, hR1.cell 3, hR1.cell 4⟩ | exact ⟨hE2.cell 0, hE2.cell 1, hR2.cell 0, hR2.cell 1, hR2.cell 2, hR2.cell 3, hR2.cell 4⟩ | exact ⟨hE3.cell 0, hE3.cell 1, hR3.cell 0, hR3.cell 1, hR3.cell 2, hR3.cell 3, hR3.cell 4⟩ | exact ⟨hE4.cell 0, hE4.cell 1, hR4.cell 0, hR4.cell 1, hR4.cell 2, hR4.cell 3, hR4.cell 4⟩ | exact ⟨hE5.cell 0, hE5.cell 1, hR5.cell 0, hR5.cell 1, hR5.cell 2, hR5.cell 3, hR5.cell 4⟩ | exact ⟨hE6.cell 0, hE6.cell 1, hR6.cell 0, hR6.cell 1, hR6.cell 2, hR6.cell 3, hR6.cell 4⟩)
            clear hK K hHeld
            have hHeld := hHeld2
            clear hHeld2
            try simp only [Act.put, List.setIfInBounds_toArray, List.set_cons_zero, List.set_cons_succ]
            refine held_take 10 ?_ rfl (by kernel_rfl) (by kernel_rfl) (by kernel_rfl) (fun _ _ _ h => h) (by rfl) ?_ hHeld ?_
            rotate_left
            · (intro w hSw; (try dsimp only at hSw); go_simp; try with_reducible rfl)
            try simp only [Act.put, List.setIfInBounds_toArray, List.set_cons_zero, List.set_cons_succ]
            refine held_take 11 ?_ rfl (by kernel_rfl) (by kernel_rfl) (by kernel_rfl) (fun _ _ _ h => h) (by rfl) ?_ hHeld ?_
            rotate_left
            · (intro w hSw; (try dsimp only at hSw); go_simp; try with_reducible rfl)
            try simp only [Act.put, List.setIfInBounds_toArray, List.set_cons_zero, List.set_cons_succ]
            refine held_take 12 ?_ rfl (by kernel_rfl) (by kernel_rfl) (by kernel_rfl) (fun _ _ _ h => h) (by rfl) ?_ hHeld ?_
            rotate_left
            · (intro w hSw; (try dsimp only at hSw); go_simp; try with_reducible rfl)
            try simp only [Act.put, List.setIfInBounds_toArray, List.set_cons_zero, List.set_cons_succ]
            refine held_take 13 ?_ rfl (by kernel_rfl) (by kernel_rfl) (by kernel_rfl) (fun _ _ _ h => h) (by rfl) ?_ hHeld ?_
            rotate_left
            · (intro w hSw; (try dsimp only at hSw); go_simp; try with_reducible rfl)
            try simp only [Act.put, List.setIfInBounds_toArray, List.set_cons_zero, List.set_cons_succ]
            refine held_take 14 ?_ rfl (by kernel_rfl) (by kernel_rfl) (by kernel_rfl) (fun _ _ _ h => h) (by rfl) ?_ hHeld ?_
            rotate_left
            · (intro w hSw; (try dsimp only at hSw); go_simp; try with_reducible rfl)
            try simp only [Act.put, List.setIfInBounds_toArray, List.set_cons_zero, List.set_cons_succ]
            refine held_take 16 ?_ rfl (by kernel_rfl) (by kernel_rfl) (by kernel_rfl) (fun _ _ _ h => h) (by rfl) ?_ hHeld ?_
            rotate_left
            · (intro w hSw; (try dsimp only at hSw); go_simp; try with_reducible rfl)
            try simp only [Act.put, List.setIfInBounds_toArray, List.set_cons_zero, List.set_cons_succ]
            refine held_take 17 ?_ rfl (by kernel_rfl) (by kernel_rfl) (by kernel_rfl) (fun _ _ _ h => h) (by rfl) ?_ hHeld ?_
            rotate_left
            · (intro w hSw; (try dsimp only at hSw); go_simp; try with_reducible rfl)
            try simp only [Act.put, List.setIfInBounds_toArray, List.set_cons_zero, List.set_cons_succ]
            refine held_one 15 rfl (by kernel_rfl) (by rfl) (fun K hK => ?_)
            go_simp
            refine (would_gt hop 5 5 _ _ hG3 hs3 (would_up HVB.out hFb)).mono ?_
            rintro e v4 ⟨rfl, hb4⟩
            have hE4 := (Eff.of_below (S := fun _ => False) hb4).blk hE3 (fun h => h)
            have hG4 := (Eff.of_below (S := fun _ => False) hb4).blk hG3 (fun h => h)
            have hR4 := (Eff.of_below (S := fun _ => False) hb4).blk hR3 (fun h => h)
            have hs4 := hs3.eff (Eff.of_below (S := fun _ => False) hb4) (fun _ _ h => h)
            have hB4 := hB3.trans (hb4.mono hB3.size)
            clear hE3 hG3 hR3 hs3 hB3 hb4
            refine hK.out _ _ ?_ (fun hHeld2 => ?_)
            · (try dsimp only); (first | exact ⟨hE1.cell 0, hE1.cell 1, hR1.cell 0, hR1.cell 1, hR1.cell 2, hR1.cell 3, hR1.cell 4⟩ | exact ⟨hE2.cell 0, hE2.cell 1, hR2.cell 0, hR2.cell 1, hR2.cell 2, hR2.cell 3, hR2.cell 4⟩ | exact ⟨hE3.cell 0, hE3.cell 1, hR3.cell 0, hR3.cell 1, hR3.cell 2, hR3.cell 3, hR3.cell 4⟩ | exact ⟨hE4.cell 0, hE4.cell 1, hR4.cell 0, hR4.cell 1, hR4.cell 2, hR4.cell 3, hR4.cell 4⟩ | exact ⟨hE5.cell 0, hE5.cell 1, hR5.cell 0, hR5.cell 1, hR5.cell 2, hR5.cell 3, hR5.cell 4⟩ | exact ⟨hE6.cell 0, hE6.cell 1, hR6.cell 0, hR6.cell 1, hR6.cell 2, hR6.cell 3, hR6.cell 4⟩)
            clear hK K hHeld
            have hHeld := hHeld2
            clear hHeld2
            try simp only [Act.put, List.setIfInBounds_toArray, List.set_cons_zero, List.set_cons_succ]
            refine held_take 18 ?_ rfl (by kernel_rfl) (by kernel_rfl) (by kernel_rfl) (fun _ _ _ h => h) (by rfl) ?_ hHeld ?_
            rotate_left
            · (intro w hSw; (try dsimp only at hSw); go_simp; try with_reducible rfl)
            try simp only [Act.put, List.setIfInBounds_toArray, List.set_cons_zero, List.set_cons_succ]
            refine held_take 19 ?_ rfl (by kernel_rfl) (by kernel_rfl) (by kernel_rfl) (fun _ _ _ h => h) (by rfl) ?_ hHeld ?_
            rotate_left
            · (intro w hSw; (try dsimp only at hSw); go_simp; try with_reducible rfl)
            try simp only [Act.put, List.setIfInBounds_toArray, List.set_cons_zero, List.set_cons_succ]
            refine held_take 20 ?_ rfl (by kernel_rfl) (by kernel_rfl) (by kernel_rfl) (fun _ _ _ h => h) (by rfl) ?_ hHeld ?_
            rotate_left
            · (intro w hSw; (try dsimp only at hSw); go_simp; try with_reducible rfl)
            try simp only [Act.put, List.setIfInBounds_toArray, List.set_cons_zero, List.set_cons_succ]
            refine held_take 21 ?_ rfl (by kernel_rfl) (by kernel_rfl) (by kernel_rfl) (fun _ _ _ h => h) (by rfl) ?_ hHeld ?_
            rotate_left
            · (intro w hSw; (try dsimp only at hSw); go_simp; try with_reducible rfl)
            try simp only [Act.put, List.setIfInBounds_toArray, List.set_cons_zero, List.set_cons_succ]
            refine held_take 22 ?_ rfl (by kernel_rfl) (by kernel_rfl) (by kernel_rfl) (fun _ _ _ h => h) (by rfl) ?_ hHeld ?_
            rotate_left
            · (intro w hSw; (try dsimp only at hSw); go_simp; try with_reducible rfl)
            try simp only [Act.put, List.setIfInBounds_toArray, List.set_cons_zero, List.set_cons_succ]
            refine held_one 23 rfl (by kernel_rfl) (by rfl) (fun K hK => ?_)
            go_simp
            refine (would_gt hop 5 2 _ _ hG4 hs4 would_off).mono ?_
            rintro e v5 ⟨rfl, hb5⟩
            have hE5 := (Eff.of_below (S := fun _ => False) hb5).blk hE4 (fun h => h)
            have hG5 := (Eff.of_below (S := fun _ => False) hb5).blk hG4 (fun h => h)
            have hR5 := (Eff.of_below (S := fun _ => False) hb5).blk hR4 (fun h => h)
            have hs5 := hs4.eff (Eff.of_below (S := fun _ => False) hb5) (fun _ _ h => h)
            have hB5 := hB4.trans (hb5.mono hB4.size)
            clear hE4 hG4 hR4 hs4 hB4 hb5
            refine hK.out _ _ ?_ (fun hHeld2 => ?_)
            · (try dsimp only); (first | exact ⟨hE1.cell 0, hE1.cell 1, hR1.cell 0, hR1.cell 1, hR1.cell 2, hR1.cell 3, hR1.cell 4⟩ | exact ⟨hE2.cell 0, hE2.cell 1, hR2.cell 0, hR2.cell 1, hR2.cell 2, hR2.cell 3, hR2.cell 4⟩ | exact ⟨hE3.cell 0, hE3.cell 1, hR3.cell 0, hR3.cell 1, hR3.cell 2, hR3.cell 3, hR3.cell 4⟩ | exact ⟨hE4.cell 0, hE4.cell 1, hR4.cell 0, hR4.cell 1, hR4.cell 2, hR4.cell 3, hR4.cell 4⟩ | exact ⟨hE5.cell 0, hE5.cell 1, hR5.cell 0, hR5.cell 1, hR5.cell 2, hR5.cell 3, hR5.cell 4⟩ | exact ⟨hE6.cell 0, hE6.cell 1, hR6.cell 0, hR6.cell 1, hR6.cell 2, hR6.cell 3, hR6.cell 4⟩)
            clear hK K hHeld
            have hHeld := hHeld2
            clear hHeld2
            try simp only [Act.put, List.setIfInBounds_toArray, List.set_cons_zero, List.set_cons_succ]
            refine held_take 24 ?_ rfl (by kernel_rfl) (by kernel_rfl) (by kernel_rfl) (fun _ _ _ h => h) (by rfl) ?_ hHeld ?_
            rotate_left
            · (intro w hSw; (try dsimp only at hSw); go_simp; try with_reducible rfl)
            try simp only [Act.put, List.setIfInBounds_toArray, List.set_cons_zero, List.set_cons_succ]
            refine held_take 25 ?_ rfl (by kernel_rfl) (by kernel_rfl) (by kernel_rfl) (fun _ _ _ h => h) (by rfl) ?_ hHeld ?_
            rotate_left
            · (intro w hSw; (try dsimp only at hSw); go_simp; try with_reducible rfl)
            try simp only [Act.put, List.setIfInBounds_toArray, List.set_cons_zero, List.set_cons_succ]
            refine held_take 26 ?_ rfl (by kernel_rfl) (by kernel_rfl) (by kernel_rfl) (fun _ _ _ h => h) (by rfl) ?_ hHeld ?_
            rotate_left
            · (intro w hSw; (try dsimp only at hSw); go_simp; try with_reducible rfl)
            try simp only [Act.put, List.setIfInBounds_toArray, List.set_cons_zero, List.set_cons_succ]
            refine held_take 27 ?_ rfl (by kernel_rfl) (by kernel_rfl) (by kernel_rfl) (fun _ _ _ h => h) (by rfl) ?_ hHeld ?_
            rotate_left
            · (intro w hSw; (try dsimp only at hSw); go_simp; try with_reducible rfl)
            try simp only [Act.put, List.setIfInBounds_toArray, List.set_cons_zero, List.set_cons_succ]
            refine held_take 28 ?_ rfl (by kernel_rfl) (by kernel_rfl) (by kernel_rfl) (fun _ _ _ h => h) (by rfl) ?_ hHeld ?_
            rotate_left
            · (intro w hSw; (try dsimp only at hSw); go_simp; try with_reducible rfl)
            try simp only [Act.put, List.setIfInBounds_toArray, List.set_cons_zero, List.set_cons_succ]
            refine held_one 29 rfl (by kernel_rfl) (by rfl) (fun K hK => ?_)
            go_simp
            refine (would_gt hop 3 3 _ _ hG5 hs5 would_out).mono ?_
            rintro e v6 ⟨rfl, hb6⟩
            have hE6 := (Eff.of_below (S := fun _ => False) hb6).blk hE5 (fun h => h)
            have hG6 := (Eff.of_below (S := fun _ => False) hb6).blk hG5 (fun h => h)
            have hR6 := (Eff.of_below (S := fun _ => False) hb6).blk hR5 (fun h => h)
            have hs6 := hs5.eff (Eff.of_below (S := fun _ => False) hb6) (fun _ _ h => h)
            have hB6 := hB5.trans (hb6.mono hB5.size)
            clear hE5 hG5 hR5 hs5 hB5 hb6
            refine hK.out _ _ ?_ (fun hHeld2 => ?_)
            · (try dsimp only); (first | exact ⟨hE1.cell 0, hE1.cell 1, hR1.cell 0, hR1.cell 1, hR1.cell 2, hR1.cell 3, hR1.cell 4⟩ | exact ⟨hE2.cell 0, hE2.cell 1, hR2.cell 0, hR2.cell 1, hR2.cell 2, hR2.cell 3, hR2.cell 4⟩ | exact ⟨hE3.cell 0, hE3.cell 1, hR3.cell 0, hR3.cell 1, hR3.cell 2, hR3.cell 3, hR3.cell 4⟩ | exact ⟨hE4.cell 0, hE4.cell 1, hR4.cell 0, hR4.cell 1, hR4.cell 2, hR4.cell 3, hR4.cell 4⟩ | exact ⟨hE5.cell 0, hE5.cell 1, hR5.cell 0, hR5.cell 1, hR5.cell 2, hR5.cell 3, hR5.cell 4⟩ | exact ⟨hE6.cell 0, hE6.cell 1, hR6.cell 0, hR6.cell 1, hR6.cell 2, hR6.cell 3, hR6.cell 4⟩)
            clear hK K hHeld
            have hHeld := hHeld2
            clear hHeld2
            try simp only [Act.put, List.setIfInBounds_toArray, List.set_cons_zero, List.set_cons_succ]
            refine held_take 30 ?_ rfl (by kernel_rfl) (by kernel_rfl) (by kernel_rfl) (fun _ _ _ h => h) (by rfl) ?_ hHeld ?_
            rotate_left
            · (intro w hSw; (try dsimp only at hSw); go_simp; try with_reducible rfl)
            try simp only [Act.put, List.setIfInBounds_toArray, List.set_cons_zero, List.set_cons_succ]
            refine held_take 31 ?_ rfl (by kernel_rfl) (by kernel_rfl) (by kernel_rfl) (fun _ _ _ h => h) (by rfl) ?_ hHeld ?_
            rotate_left
            · (intro w hSw; (try dsimp only at hSw); go_simp; try with_reducible rfl)
            try simp only [Act.put, List.setIfInBounds_toArray, List.set_cons_zero, List.set_cons_succ]
            refine held_take 32 ?_ rfl (by kernel_rfl) (by kernel_rfl) (by kernel_rfl) (fun _ _ _ h => h) (by rfl) ?_ hHeld ?_
            rotate_left
            · (intro w hSw; (try dsimp only at hSw); go_simp; try with_reducible rfl)
            try simp only [Act.put, List.setIfInBounds_toArray, List.set_cons_zero, List.set_cons_succ]
            refine wpAnyH_done (by kernel_rfl) ?_ _
            clear hHeld
            go_wp2
            go_ret
            exact ⟨rfl, hB6⟩
          | false =>
            have h1 : Gt.founds ⟨ac, af, 0, F⟩ bc bf = false := by simp [Gt.founds, Gt.aboveB, hvb, hFb, hab]
            have h2 : Gt.found ⟨ac, af, 0, F⟩ bc bf = ⟨ac, af, 0, F⟩ := by rw [Gt.found, h1]; rfl
            have hfd := found_any ⟨ac, af, 0, F⟩ bc bf _ hG5
            rw [h1, h2] at hfd
            refine hfd.mono ?_
            rintro e w6 ⟨rfl, hG6, hE6⟩
            have hA6 := hE6.blk hA5 (by omega)
            have hb6 := hE6.blk hb5 (by omega)
            have hB6 := hE6.below hB5 hB5.size (fun i hi => by omega)
            clear hfd h1 h2 hE6 hG5 hA5 hb5 hB5
            have x0 : w6.cell? ⟨w.heap.size + 1, 0, none⟩ = some (.int .i64 bc) := hb6.cell 0
            have x1 : w6.cell? ⟨w.heap.size + 1, 1, none⟩ = some (.int .i64 bf) := hb6.cell 1
            have HVB := hid hvb
            clear hvb
            go_wp2_with fail
            clear x0 x1
            refine (refValid_any bc bf _).mono ?_
            rintro e w7 ⟨rfl, hbl7⟩
            rw [HVB.out]
            have hG7 := (Eff.of_below (S := fun _ => False) hbl7).blk hG6 (fun h => h)
            have hA7 := (Eff.of_below (S := fun _ => False) hbl7).blk hA6 (fun h => h)
            have hb7 := (Eff.of_below (S := fun _ => False) hbl7).blk hb6 (fun h => h)
            have hB7 := hB6.trans (hbl7.mono hB6.size)
            clear hG6 hA6 hb6 hB6 hbl7
            have x0 : w7.cell? ⟨w.heap.size, 0, none⟩ = some (.int .i64 ac) := hA7.cell 0
            have x1 : w7.cell? ⟨w.heap.size, 1, none⟩ = some (.int .i64 af) := hA7.cell 1
            have y0 : w7.cell? ⟨w.heap.size + 1, 0, none⟩ = some (.int .i64 bc) := hb7.cell 0
            have y1 : w7.cell? ⟨w.heap.size + 1, 1, none⟩ = some (.int .i64 bf) := hb7.cell 1
            go_wp2_with fail
            clear x0 x1 y0 y1
            refine (refLess_any ac af bc bf _).mono ?_
            rintro e w8 ⟨rfl, hbl8⟩
            rw [hab]
            have hG8 := (Eff.of_below (S := fun _ => False) hbl8).blk hG7 (fun h => h)
            have hA8 := (Eff.of_below (S := fun _ => False) hbl8).blk hA7 (fun h => h)
            have hb8 := (Eff.of_below (S := fun _ => False) hbl8).blk hb7 (fun h => h)
            have hB8 := hB7.trans (hbl8.mono hB7.size)
            clear hG7 hA7 hb7 hB7 hbl8 hab
            have x0 : w8.cell? ⟨w.heap.size, 0, none⟩ = some (.int .i64 ac) := hA8.cell 0
            have x1 : w8.cell? ⟨w.heap.size, 1, none⟩ = some (.int .i64 af) := hA8.cell 1
            have y0 : w8.cell? ⟨w.heap.size + 1, 0, none⟩ = some (.int .i64 bc) := hb8.cell 0
            have y1 : w8.cell? ⟨w.heap.size + 1, 1, none⟩ = some (.int .i64 bf) := hb8.cell 1
            go_wp2_with fail
            clear x0 x1 y0 y1
            obtain ⟨v1, hv1⟩ : ∃ v1, v1 = ((w8.alloc (.cells #[.int .i64 ac, .int .i64 af] 28)).alloc (.cells #[.int .i64 2, .int .i64 5] 3)).alloc (.cells #[.int .i64 ac, .int .i64 af, .int .i64 hop, .slice (some ⟨w8.heap.size + 1, 0, none⟩) 2 2, .slice none 0 0] 32) := ⟨_, rfl⟩
            have hE1 : Blk v1 w8.heap.size [.int .i64 ac, .int .i64 af] 28 := by rw [hv1]; exact ((Blk.new w8 _ _).alloc _).alloc _
            have hM1 : Blk v1 (w8.heap.size + 1) [.int .i64 2, .int .i64 5] 3 := by
              rw [hv1, show w8.heap.size + 1 = (w8.alloc (.cells #[.int .i64 ac, .int .i64 af] 28)).heap.size from by simp]; exact (Blk.new _ _ _).alloc _
            have hR1 : Blk v1 (w8.heap.size + 1 + 1) [.int .i64 ac, .int .i64 af, .int .i64 hop, .slice (some ⟨w8.heap.size + 1, 0, none⟩) 2 2, .slice none 0 0] 32 := by
              rw [hv1, show w8.heap.size + 1 + 1 = ((w8.alloc (.cells #[.int .i64 ac, .int .i64 af] 28)).alloc (.cells #[.int .i64 2, .int .i64 5] 3)).heap.size from by simp]; exact Blk.new _ _ _
            have hG1 : Blk v1 G (Gt.mk ac af 0 F).cells 54 := by rw [hv1]; exact ((hG8.alloc _).alloc _).alloc _
            have hB1 : Below w.heap.size w v1 := by rw [hv1]; exact ((hB8.alloc hB8.size _).alloc (Nat.le_trans hB8.size (by simp)) _).alloc (Nat.le_trans hB8.size (by simp; omega)) _
            rw [← hv1]
            clear hv1
            have hs1 := sl_two hM1
            clear hM1
            have hE1 := hE1.drew
            have hR1 := hR1.drew
            have hG1 := hG1.drew
            have hB1 := hB1.drew
            have hs1 : Sl v1.drew _ _ := hs1
            refine wp_region_held_drew (S := fun w' => w'.cell? ⟨w8.heap.size, 0, none⟩ = some (.int .i64 ac) ∧ w'.cell? ⟨w8.heap.size, 1, none⟩ = some (.int .i64 af) ∧ w'.cell? ⟨w8.heap.size + 1 + 1, 0, none⟩ = some (.int .i64 ac) ∧ w'.cell? ⟨w8.heap.size + 1 + 1, 1, none⟩ = some (.int .i64 af) ∧ w'.cell? ⟨w8.heap.size + 1 + 1, 2, none⟩ = some (.int .i64 hop) ∧ w'.cell? ⟨w8.heap.size + 1 + 1, 3, none⟩ = some (.slice (some ⟨w8.heap.size + 1, 0, none⟩) 2 2) ∧ w'.cell? ⟨w8.heap.size + 1 + 1, 4, none⟩ = some (.slice none 0 0)) (by kernel_rfl) ?_ (fun hHeld => ?_)
            · (try dsimp only); (first | exact ⟨hE1.cell 0, hE1.cell 1, hR1.cell 0, hR1.cell 1, hR1.cell 2, hR1.cell 3, hR1.cell 4⟩ | exact ⟨hE2.cell 0, hE2.cell 1, hR2.cell 0, hR2.cell 1, hR2.cell 2, hR2.cell 3, hR2.cell 4⟩ | exact ⟨hE3.cell 0, hE3.cell 1, hR3.cell 0, hR3.cell 1, hR3.cell 2, hR3.cell 3, hR3.cell 4⟩ | exact ⟨hE4.cell 0, hE4.cell 1, hR4.cell 0, hR4.cell 1, hR4.cell 2, hR4.cell 3, hR4.cell 4⟩ | exact ⟨hE5.cell 0, hE5.cell 1, hR5.cell 0, hR5.cell 1, hR5.cell 2, hR5.cell 3, hR5.cell 4⟩ | exact ⟨hE6.cell 0, hE6.cell 1, hR6.cell 0, hR6.cell 1, hR6.cell 2, hR6.cell 3, hR6.cell 4⟩)
            refine held_take 0 ?_ rfl (by kernel_rfl) (by kernel_rfl) (by kernel_rfl) (fun _ _ _ h => h) (by rfl) ?_ hHeld ?_
            rotate_left
            · (intro w hSw; (try dsimp only at hSw); go_simp; try with_reducible rfl)
            try simp only [Act.put, List.setIfInBounds_toArray, List.set_cons_zero, List.set_cons_succ]
            refine held_take 1 ?_ rfl (by kernel_rfl) (by kernel_rfl) (by kernel_rfl) (fun _ _ _ h => h) (by rfl) ?_ hHeld ?_
            rotate_left
            · (intro w hSw; (try dsimp only at hSw); go_simp; try with_reducible rfl)
            try simp only [Act.put, List.setIfInBounds_toArray, List.set_cons_zero, List.set_cons_succ]
            refine held_take 2 ?_ rfl (by kernel_rfl) (by kernel_rfl) (by kernel_rfl) (fun _ _ _ h => h) (by rfl) ?_ hHeld ?_
            rotate_left
            · (intro w hSw; (try dsimp only at hSw); go_simp; try with_reducible rfl)
            try simp only [Act.put, List.setIfInBounds_toArray, List.set_cons_zero, List.set_cons_succ]
            refine held_take 4 ?_ rfl (by kernel_rfl) (by kernel_rfl) (by kernel_rfl) (fun _ _ _ h => h) (by rfl) ?_ hHeld ?_
            rotate_left
            · (intro w hSw; (try dsimp only at hSw); go_simp; try with_reducible rfl)
            try simp only [Act.put, List.setIfInBounds_toArray, List.set_cons_zero, List.set_cons_succ]
            refine held_one 3 rfl (by kernel_rfl) (by rfl) (fun K hK => ?_)
            go_simp
            refine (epoch_gt _ hG1).mono ?_
            rintro e v2 ⟨rfl, hb2⟩
            have hE2 := (Eff.of_below (S := fun _ => False) hb2).blk hE1 (fun h => h)
            have hG2 := (Eff.of_below (S := fun _ => False) hb2).blk hG1 (fun h => h)
            have hR2 := (Eff.of_below (S := fun _ => False) hb2).blk hR1 (fun h => h)
            have hs2 := hs1.eff (Eff.of_below (S := fun _ => False) hb2) (fun _ _ h => h)
            have hB2 := hB1.trans (hb2.mono hB1.size)
            clear hE1 hG1 hR1 hs1 hB1 hb2
            refine hK.out _ _ ?_ (fun hHeld2 => ?_)
            · (try dsimp only); (first | exact ⟨hE1.cell 0, hE1.cell 1, hR1.cell 0, hR1.cell 1, hR1.cell 2, hR1.cell 3, hR1.cell 4⟩ | exact ⟨hE2.cell 0, hE2.cell 1, hR2.cell 0, hR2.cell 1, hR2.cell 2, hR2.cell 3, hR2.cell 4⟩ | exact ⟨hE3.cell 0, hE3.cell 1, hR3.cell 0, hR3.cell 1, hR3.cell 2, hR3.cell 3, hR3.cell 4⟩ | exact ⟨hE4.cell 0, hE4.cell 1, hR4.cell 0, hR4.cell 1, hR4.cell 2, hR4.cell 3, hR4.cell 4⟩ | exact ⟨hE5.cell 0, hE5.cell 1, hR5.cell 0, hR5.cell 1, hR5.cell 2, hR5.cell 3, hR5.cell 4⟩ | exact ⟨hE6.cell 0, hE6.cell 1, hR6.cell 0, hR6.cell 1, hR6.cell 2, hR6.cell 3, hR6.cell 4⟩)
            clear hK K hHeld
            have hHeld := hHeld2
            clear hHeld2
            try simp only [Act.put, List.setIfInBounds_toArray, List.set_cons_zero, List.set_cons_succ]
            refine held_one 5 rfl (by kernel_rfl) (by rfl) (fun K hK => ?_)
            go_simp
            refine (same_gt ac af _).mono ?_
            rintro e v3 ⟨rfl, hb3⟩
            have hE3 := (Eff.of_below (S := fun _ => False) hb3).blk hE2 (fun h => h)
            have hG3 := (Eff.of_below (S := fun _ => False) hb3).blk hG2 (fun h => h)
            have hR3 := (Eff.of_below (S := fun _ => False) hb3).blk hR2 (fun h => h)
            have hs3 := hs2.eff (Eff.of_below (S := fun _ => False) hb3) (fun _ _ h => h)
            have hB3 := hB2.trans (hb3.mono hB2.size)
            clear hE2 hG2 hR2 hs2 hB2 hb3
            refine hK.out _ _ ?_ (fun hHeld2 => ?_)
            · (try dsimp only); (first | exact ⟨hE1.cell 0, hE1.cell 1, hR1.cell 0, hR1.cell 1, hR1.cell 2, hR1.cell 3, hR1.cell 4⟩ | exact ⟨hE2.cell 0, hE2.cell 1, hR2.cell 0, hR2.cell 1, hR2.cell 2, hR2.cell 3, hR2.cell 4⟩ | exact ⟨hE3.cell 0, hE3.cell 1, hR3.cell 0, hR3.cell 1, hR3.cell 2, hR3.cell 3, hR3.cell 4⟩ | exact ⟨hE4.cell 0, hE4.cell 1, hR4.cell 0, hR4.cell 1, hR4.cell 2, hR4.cell 3, hR4.cell 4⟩ | exact ⟨hE5.cell 0, hE5.cell 1, hR5.cell 0, hR5.cell 1, hR5.cell 2, hR5.cell 3, hR5.cell 4⟩ | exact ⟨hE6.cell 0, hE6.cell 1, hR6.cell 0, hR6.cell 1, hR6.cell 2, hR6.cell 3, hR6.cell 4⟩)
            clear hK K hHeld
            have hHeld := hHeld2
            clear hHeld2
            try simp only [Act.put, List.setIfInBounds_toArray, List.set_cons_zero, List.set_cons_succ]
            refine held_take 6 ?_ rfl (by kernel_rfl) (by kernel_rfl) (by kernel_rfl) (fun _ _ _ h => h) (by rfl) ?_ hHeld ?_
            rotate_left
            · (intro w hSw; (try dsimp only at hSw); go_simp; try with_reducible rfl)
            try simp only [Act.put, List.setIfInBounds_toArray, List.set_cons_zero, List.set_cons_succ]
            refine held_take 7 ?_ rfl (by kernel_rfl) (by kernel_rfl) (by kernel_rfl) (fun _ _ _ h => h) (by rfl) ?_ hHeld ?_
            rotate_left
            · (intro w hSw; (try dsimp only at hSw); go_simp; try with_reducible rfl)
            try simp only [Act.put, List.setIfInBounds_toArray, List.set_cons_zero, List.set_cons_succ]
            refine held_take 8 ?_ rfl (by kernel_rfl) (by kernel_rfl) (by kernel_rfl) (fun _ _ _ h => h) (by rfl) ?_ hHeld ?_
            rotate_left
            · (intro w hSw; (try dsimp only at hSw); go_simp; try with_reducible rfl)
            try simp only [Act.put, List.setIfInBounds_toArray, List.set_cons_zero, List.set_cons_succ]
            refine held_one 9 rfl (by kernel_rfl) (by rfl) (fun K hK => ?_)
            go_simp
            refine (hop_gt _ hG3).mono ?_
            rintro e w' ⟨rfl, rfl⟩
            refine hK.out _ _ ?_ (fun hHeld2 => ?_)
            · (try dsimp only); (first | exact ⟨hE1.cell 0, hE1.cell 1, hR1.cell 0, hR1.cell 1, hR1.cell 2, hR1.cell 3, hR1.cell 4⟩ | exact ⟨hE2.cell 0, hE2.cell 1, hR2.cell 0, hR2.cell 1, hR2.cell 2, hR2.cell 3, hR2.cell 4⟩ | exact ⟨hE3.cell 0, hE3.cell 1, hR3.cell 0, hR3.cell 1, hR3.cell 2, hR3.cell 3, hR3.cell 4⟩ | exact ⟨hE4.cell 0, hE4.cell 1, hR4.cell 0, hR4.cell 1, hR4.cell 2, hR4.cell 3, hR4.cell 4⟩ | exact ⟨hE5.cell 0, hE5.cell 1, hR5.cell 0, hR5.cell 1, hR5.cell 2, hR5.cell 3, hR5.cell 4⟩ | exact ⟨hE6.cell 0, hE6.cell 1, hR6.cell 0, hR6.cell 1, hR6.cell 2, hR6.cell 3, hR6.cell 4⟩)
            clear hK K hHeld
            have hHeld := hHeld2
            clear hHeld2
            try simp only [Act.put, List.setIfInBounds_toArray, List.set_cons_zero, List.set_cons_succ]
            refine held_take 10 ?_ rfl (by kernel_rfl) (by kernel_rfl) (by kernel_rfl) (fun _ _ _ h => h) (by rfl) ?_ hHeld ?_
            rotate_left
            · (intro w hSw; (try dsimp only at hSw); go_simp; try with_reducible rfl)
            try simp only [Act.put, List.setIfInBounds_toArray, List.set_cons_zero, List.set_cons_succ]
            refine held_take 11 ?_ rfl (by kernel_rfl) (by kernel_rfl) (by kernel_rfl) (fun _ _ _ h => h) (by rfl) ?_ hHeld ?_
            rotate_left
            · (intro w hSw; (try dsimp only at hSw); go_simp; try with_reducible rfl)
            try simp only [Act.put, List.setIfInBounds_toArray, List.set_cons_zero, List.set_cons_succ]
            refine held_take 12 ?_ rfl (by kernel_rfl) (by kernel_rfl) (by kernel_rfl) (fun _ _ _ h => h) (by rfl) ?_ hHeld ?_
            rotate_left
            · (intro w hSw; (try dsimp only at hSw); go_simp; try with_reducible rfl)
            try simp only [Act.put, List.setIfInBounds_toArray, List.set_cons_zero, List.set_cons_succ]
            refine held_take 13 ?_ rfl (by kernel_rfl) (by kernel_rfl) (by kernel_rfl) (fun _ _ _ h => h) (by rfl) ?_ hHeld ?_
            rotate_left
            · (intro w hSw; (try dsimp only at hSw); go_simp; try with_reducible rfl)
            try simp only [Act.put, List.setIfInBounds_toArray, List.set_cons_zero, List.set_cons_succ]
            refine held_take 14 ?_ rfl (by kernel_rfl) (by kernel_rfl) (by kernel_rfl) (fun _ _ _ h => h) (by rfl) ?_ hHeld ?_
            rotate_left
            · (intro w hSw; (try dsimp only at hSw); go_simp; try with_reducible rfl)
            try simp only [Act.put, List.setIfInBounds_toArray, List.set_cons_zero, List.set_cons_succ]
            refine held_take 16 ?_ rfl (by kernel_rfl) (by kernel_rfl) (by kernel_rfl) (fun _ _ _ h => h) (by rfl) ?_ hHeld ?_
            rotate_left
            · (intro w hSw; (try dsimp only at hSw); go_simp; try with_reducible rfl)
            try simp only [Act.put, List.setIfInBounds_toArray, List.set_cons_zero, List.set_cons_succ]
            refine held_take 17 ?_ rfl (by kernel_rfl) (by kernel_rfl) (by kernel_rfl) (fun _ _ _ h => h) (by rfl) ?_ hHeld ?_
            rotate_left
            · (intro w hSw; (try dsimp only at hSw); go_simp; try with_reducible rfl)
            try simp only [Act.put, List.setIfInBounds_toArray, List.set_cons_zero, List.set_cons_succ]
            refine held_one 15 rfl (by kernel_rfl) (by rfl) (fun K hK => ?_)
            go_simp
            refine (would_gt hop 5 5 _ _ hG3 hs3 (would_up HVA.out hFa)).mono ?_
            rintro e v4 ⟨rfl, hb4⟩
            have hE4 := (Eff.of_below (S := fun _ => False) hb4).blk hE3 (fun h => h)
            have hG4 := (Eff.of_below (S := fun _ => False) hb4).blk hG3 (fun h => h)
            have hR4 := (Eff.of_below (S := fun _ => False) hb4).blk hR3 (fun h => h)
            have hs4 := hs3.eff (Eff.of_below (S := fun _ => False) hb4) (fun _ _ h => h)
            have hB4 := hB3.trans (hb4.mono hB3.size)
            clear hE3 hG3 hR3 hs3 hB3 hb4
            refine hK.out _ _ ?_ (fun hHeld2 => ?_)
            · (try dsimp only); (first | exact ⟨hE1.cell 0, hE1.cell 1, hR1.cell 0, hR1.cell 1, hR1.cell 2, hR1.cell 3, hR1.cell 4⟩ | exact ⟨hE2.cell 0, hE2.cell 1, hR2.cell 0, hR2.cell 1, hR2.cell 2, hR2.cell 3, hR2.cell 4⟩ | exact ⟨hE3.cell 0, hE3.cell 1, hR3.cell 0, hR3.cell 1, hR3.cell 2, hR3.cell 3, hR3.cell 4⟩ | exact ⟨hE4.cell 0, hE4.cell 1, hR4.cell 0, hR4.cell 1, hR4.cell 2, hR4.cell 3, hR4.cell 4⟩ | exact ⟨hE5.cell 0, hE5.cell 1, hR5.cell 0, hR5.cell 1, hR5.cell 2, hR5.cell 3, hR5.cell 4⟩ | exact ⟨hE6.cell 0, hE6.cell 1, hR6.cell 0, hR6.cell 1, hR6.cell 2, hR6.cell 3, hR6.cell 4⟩)
            clear hK K hHeld
            have hHeld := hHeld2
            clear hHeld2
            try simp only [Act.put, List.setIfInBounds_toArray, List.set_cons_zero, List.set_cons_succ]
            refine held_take 18 ?_ rfl (by kernel_rfl) (by kernel_rfl) (by kernel_rfl) (fun _ _ _ h => h) (by rfl) ?_ hHeld ?_
            rotate_left
            · (intro w hSw; (try dsimp only at hSw); go_simp; try with_reducible rfl)
            try simp only [Act.put, List.setIfInBounds_toArray, List.set_cons_zero, List.set_cons_succ]
            refine held_take 19 ?_ rfl (by kernel_rfl) (by kernel_rfl) (by kernel_rfl) (fun _ _ _ h => h) (by rfl) ?_ hHeld ?_
            rotate_left
            · (intro w hSw; (try dsimp only at hSw); go_simp; try with_reducible rfl)
            try simp only [Act.put, List.setIfInBounds_toArray, List.set_cons_zero, List.set_cons_succ]
            refine held_take 20 ?_ rfl (by kernel_rfl) (by kernel_rfl) (by kernel_rfl) (fun _ _ _ h => h) (by rfl) ?_ hHeld ?_
            rotate_left
            · (intro w hSw; (try dsimp only at hSw); go_simp; try with_reducible rfl)
            try simp only [Act.put, List.setIfInBounds_toArray, List.set_cons_zero, List.set_cons_succ]
            refine held_take 21 ?_ rfl (by kernel_rfl) (by kernel_rfl) (by kernel_rfl) (fun _ _ _ h => h) (by rfl) ?_ hHeld ?_
            rotate_left
            · (intro w hSw; (try dsimp only at hSw); go_simp; try with_reducible rfl)
            try simp only [Act.put, List.setIfInBounds_toArray, List.set_cons_zero, List.set_cons_succ]
            refine held_take 22 ?_ rfl (by kernel_rfl) (by kernel_rfl) (by kernel_rfl) (fun _ _ _ h => h) (by rfl) ?_ hHeld ?_
            rotate_left
            · (intro w hSw; (try dsimp only at hSw); go_simp; try with_reducible rfl)
            try simp only [Act.put, List.setIfInBounds_toArray, List.set_cons_zero, List.set_cons_succ]
            refine held_one 23 rfl (by kernel_rfl) (by rfl) (fun K hK => ?_)
            go_simp
            refine (would_gt hop 5 2 _ _ hG4 hs4 would_off).mono ?_
            rintro e v5 ⟨rfl, hb5⟩
            have hE5 := (Eff.of_below (S := fun _ => False) hb5).blk hE4 (fun h => h)
            have hG5 := (Eff.of_below (S := fun _ => False) hb5).blk hG4 (fun h => h)
            have hR5 := (Eff.of_below (S := fun _ => False) hb5).blk hR4 (fun h => h)
            have hs5 := hs4.eff (Eff.of_below (S := fun _ => False) hb5) (fun _ _ h => h)
            have hB5 := hB4.trans (hb5.mono hB4.size)
            clear hE4 hG4 hR4 hs4 hB4 hb5
            refine hK.out _ _ ?_ (fun hHeld2 => ?_)
            · (try dsimp only); (first | exact ⟨hE1.cell 0, hE1.cell 1, hR1.cell 0, hR1.cell 1, hR1.cell 2, hR1.cell 3, hR1.cell 4⟩ | exact ⟨hE2.cell 0, hE2.cell 1, hR2.cell 0, hR2.cell 1, hR2.cell 2, hR2.cell 3, hR2.cell 4⟩ | exact ⟨hE3.cell 0, hE3.cell 1, hR3.cell 0, hR3.cell 1, hR3.cell 2, hR3.cell 3, hR3.cell 4⟩ | exact ⟨hE4.cell 0, hE4.cell 1, hR4.cell 0, hR4.cell 1, hR4.cell 2, hR4.cell 3, hR4.cell 4⟩ | exact ⟨hE5.cell 0, hE5.cell 1, hR5.cell 0, hR5.cell 1, hR5.cell 2, hR5.cell 3, hR5.cell 4⟩ | exact ⟨hE6.cell 0, hE6.cell 1, hR6.cell 0, hR6.cell 1, hR6.cell 2, hR6.cell 3, hR6.cell 4⟩)
            clear hK K hHeld
            have hHeld := hHeld2
            clear hHeld2
            try simp only [Act.put, List.setIfInBounds_toArray, List.set_cons_zero, List.set_cons_succ]
            refine held_take 24 ?_ rfl (by kernel_rfl) (by kernel_rfl) (by kernel_rfl) (fun _ _ _ h => h) (by rfl) ?_ hHeld ?_
            rotate_left
            · (intro w hSw; (try dsimp only at hSw); go_simp; try with_reducible rfl)
            try simp only [Act.put, List.setIfInBounds_toArray, List.set_cons_zero, List.set_cons_succ]
            refine held_take 25 ?_ rfl (by kernel_rfl) (by kernel_rfl) (by kernel_rfl) (fun _ _ _ h => h) (by rfl) ?_ hHeld ?_
            rotate_left
            · (intro w hSw; (try dsimp only at hSw); go_simp; try with_reducible rfl)
            try simp only [Act.put, List.setIfInBounds_toArray, List.set_cons_zero, List.set_cons_succ]
            refine held_take 26 ?_ rfl (by kernel_rfl) (by kernel_rfl) (by kernel_rfl) (fun _ _ _ h => h) (by rfl) ?_ hHeld ?_
            rotate_left
            · (intro w hSw; (try dsimp only at hSw); go_simp; try with_reducible rfl)
            try simp only [Act.put, List.setIfInBounds_toArray, List.set_cons_zero, List.set_cons_succ]
            refine held_take 27 ?_ rfl (by kernel_rfl) (by kernel_rfl) (by kernel_rfl) (fun _ _ _ h => h) (by rfl) ?_ hHeld ?_
            rotate_left
            · (intro w hSw; (try dsimp only at hSw); go_simp; try with_reducible rfl)
            try simp only [Act.put, List.setIfInBounds_toArray, List.set_cons_zero, List.set_cons_succ]
            refine held_take 28 ?_ rfl (by kernel_rfl) (by kernel_rfl) (by kernel_rfl) (fun _ _ _ h => h) (by rfl) ?_ hHeld ?_
            rotate_left
            · (intro w hSw; (try dsimp only at hSw); go_simp; try with_reducible rfl)
            try simp only [Act.put, List.setIfInBounds_toArray, List.set_cons_zero, List.set_cons_succ]
            refine held_one 29 rfl (by kernel_rfl) (by rfl) (fun K hK => ?_)
            go_simp
            refine (would_gt hop 3 3 _ _ hG5 hs5 would_out).mono ?_
            rintro e v6 ⟨rfl, hb6⟩
            have hE6 := (Eff.of_below (S := fun _ => False) hb6).blk hE5 (fun h => h)
            have hG6 := (Eff.of_below (S := fun _ => False) hb6).blk hG5 (fun h => h)
            have hR6 := (Eff.of_below (S := fun _ => False) hb6).blk hR5 (fun h => h)
            have hs6 := hs5.eff (Eff.of_below (S := fun _ => False) hb6) (fun _ _ h => h)
            have hB6 := hB5.trans (hb6.mono hB5.size)
            clear hE5 hG5 hR5 hs5 hB5 hb6
            refine hK.out _ _ ?_ (fun hHeld2 => ?_)
            · (try dsimp only); (first | exact ⟨hE1.cell 0, hE1.cell 1, hR1.cell 0, hR1.cell 1, hR1.cell 2, hR1.cell 3, hR1.cell 4⟩ | exact ⟨hE2.cell 0, hE2.cell 1, hR2.cell 0, hR2.cell 1, hR2.cell 2, hR2.cell 3, hR2.cell 4⟩ | exact ⟨hE3.cell 0, hE3.cell 1, hR3.cell 0, hR3.cell 1, hR3.cell 2, hR3.cell 3, hR3.cell 4⟩ | exact ⟨hE4.cell 0, hE4.cell 1, hR4.cell 0, hR4.cell 1, hR4.cell 2, hR4.cell 3, hR4.cell 4⟩ | exact ⟨hE5.cell 0, hE5.cell 1, hR5.cell 0, hR5.cell 1, hR5.cell 2, hR5.cell 3, hR5.cell 4⟩ | exact ⟨hE6.cell 0, hE6.cell 1, hR6.cell 0, hR6.cell 1, hR6.cell 2, hR6.cell 3, hR6.cell 4⟩)
            clear hK K hHeld
            have hHeld := hHeld2
            clear hHeld2
            try simp only [Act.put, List.setIfInBounds_toArray, List.set_cons_zero, List.set_cons_succ]
            refine held_take 30 ?_ rfl (by kernel_rfl) (by kernel_rfl) (by kernel_rfl) (fun _ _ _ h => h) (by rfl) ?_ hHeld ?_
            rotate_left
            · (intro w hSw; (try dsimp only at hSw); go_simp; try with_reducible rfl)
            try simp only [Act.put, List.setIfInBounds_toArray, List.set_cons_zero, List.set_cons_succ]
            refine held_take 31 ?_ rfl (by kernel_rfl) (by kernel_rfl) (by kernel_rfl) (fun _ _ _ h => h) (by rfl) ?_ hHeld ?_
            rotate_left
            · (intro w hSw; (try dsimp only at hSw); go_simp; try with_reducible rfl)
            try simp only [Act.put, List.setIfInBounds_toArray, List.set_cons_zero, List.set_cons_succ]
            refine held_take 32 ?_ rfl (by kernel_rfl) (by kernel_rfl) (by kernel_rfl) (fun _ _ _ h => h) (by rfl) ?_ hHeld ?_
            rotate_left
            · (intro w hSw; (try dsimp only at hSw); go_simp; try with_reducible rfl)
            try simp only [Act.put, List.setIfInBounds_toArray, List.set_cons_zero, List.set_cons_succ]
            refine wpAnyH_done (by kernel_rfl) ?_ _
            clear hHeld
            go_wp2
            go_ret
            exact ⟨rfl, hB6⟩
        · have h1 : Gt.founds ⟨ac, af, 0, F⟩ bc bf = false := by simp [Gt.founds, Gt.aboveB, hvb, hFb]
          have h2 : Gt.found ⟨ac, af, 0, F⟩ bc bf = ⟨ac, af, 0, F⟩ := by rw [Gt.found, h1]; rfl
          have hfd := found_any ⟨ac, af, 0, F⟩ bc bf _ hG5
          rw [h1, h2] at hfd
          refine hfd.mono ?_
          rintro e w6 ⟨rfl, hG6, hE6⟩
          have hA6 := hE6.blk hA5 (by omega)
          have hb6 := hE6.blk hb5 (by omega)
          have hB6 := hE6.below hB5 hB5.size (fun i hi => by omega)
          clear hfd h1 h2 hE6 hG5 hA5 hb5 hB5
          have x0 : w6.cell? ⟨w.heap.size + 1, 0, none⟩ = some (.int .i64 bc) := hb6.cell 0
          have x1 : w6.cell? ⟨w.heap.size + 1, 1, none⟩ = some (.int .i64 bf) := hb6.cell 1
          have HVB := hid hvb
          clear hvb
          go_wp2_with fail
          clear x0 x1
          refine (refValid_any bc bf _).mono ?_
          rintro e w7 ⟨rfl, hbl7⟩
          rw [HVB.out]
          have hG7 := (Eff.of_below (S := fun _ => False) hbl7).blk hG6 (fun h => h)
          have hA7 := (Eff.of_below (S := fun _ => False) hbl7).blk hA6 (fun h => h)
          have hb7 := (Eff.of_below (S := fun _ => False) hbl7).blk hb6 (fun h => h)
          have hB7 := hB6.trans (hbl7.mono hB6.size)
          clear hG6 hA6 hb6 hB6 hbl7
          have x0 : w7.cell? ⟨w.heap.size, 0, none⟩ = some (.int .i64 ac) := hA7.cell 0
          have x1 : w7.cell? ⟨w.heap.size, 1, none⟩ = some (.int .i64 af) := hA7.cell 1
          have y0 : w7.cell? ⟨w.heap.size + 1, 0, none⟩ = some (.int .i64 bc) := hb7.cell 0
          have y1 : w7.cell? ⟨w.heap.size + 1, 1, none⟩ = some (.int .i64 bf) := hb7.cell 1
          go_wp2_with fail
          clear x0 x1 y0 y1
          obtain ⟨v1, hv1⟩ : ∃ v1, v1 = ((w7.alloc (.cells #[.int .i64 ac, .int .i64 af] 28)).alloc (.cells #[.int .i64 2, .int .i64 5] 3)).alloc (.cells #[.int .i64 ac, .int .i64 af, .int .i64 hop, .slice (some ⟨w7.heap.size + 1, 0, none⟩) 2 2, .slice none 0 0] 32) := ⟨_, rfl⟩
          have hE1 : Blk v1 w7.heap.size [.int .i64 ac, .int .i64 af] 28 := by rw [hv1]; exact ((Blk.new w7 _ _).alloc _).alloc _
          have hM1 : Blk v1 (w7.heap.size + 1) [.int .i64 2, .int .i64 5] 3 := by
            rw [hv1, show w7.heap.size + 1 = (w7.alloc (.cells #[.int .i64 ac, .int .i64 af] 28)).heap.size from by simp]; exact (Blk.new _ _ _).alloc _
          have hR1 : Blk v1 (w7.heap.size + 1 + 1) [.int .i64 ac, .int .i64 af, .int .i64 hop, .slice (some ⟨w7.heap.size + 1, 0, none⟩) 2 2, .slice none 0 0] 32 := by
            rw [hv1, show w7.heap.size + 1 + 1 = ((w7.alloc (.cells #[.int .i64 ac, .int .i64 af] 28)).alloc (.cells #[.int .i64 2, .int .i64 5] 3)).heap.size from by simp]; exact Blk.new _ _ _
          have hG1 : Blk v1 G (Gt.mk ac af 0 F).cells 54 := by rw [hv1]; exact ((hG7.alloc _).alloc _).alloc _
          have hB1 : Below w.heap.size w v1 := by rw [hv1]; exact ((hB7.alloc hB7.size _).alloc (Nat.le_trans hB7.size (by simp)) _).alloc (Nat.le_trans hB7.size (by simp; omega)) _
          rw [← hv1]
          clear hv1
          have hs1 := sl_two hM1
          clear hM1
          have hE1 := hE1.drew
          have hR1 := hR1.drew
          have hG1 := hG1.drew
          have hB1 := hB1.drew
          have hs1 : Sl v1.drew _ _ := hs1
          refine wp_region_held_drew (S := fun w' => w'.cell? ⟨w7.heap.size, 0, none⟩ = some (.int .i64 ac) ∧ w'.cell? ⟨w7.heap.size, 1, none⟩ = some (.int .i64 af) ∧ w'.cell? ⟨w7.heap.size + 1 + 1, 0, none⟩ = some (.int .i64 ac) ∧ w'.cell? ⟨w7.heap.size + 1 + 1, 1, none⟩ = some (.int .i64 af) ∧ w'.cell? ⟨w7.heap.size + 1 + 1, 2, none⟩ = some (.int .i64 hop) ∧ w'.cell? ⟨w7.heap.size + 1 + 1, 3, none⟩ = some (.slice (some ⟨w7.heap.size + 1, 0, none⟩) 2 2) ∧ w'.cell? ⟨w7.heap.size + 1 + 1, 4, none⟩ = some (.slice none 0 0)) (by kernel_rfl) ?_ (fun hHeld => ?_)
          · (try dsimp only); (first | exact ⟨hE1.cell 0, hE1.cell 1, hR1.cell 0, hR1.cell 1, hR1.cell 2, hR1.cell 3, hR1.cell 4⟩ | exact ⟨hE2.cell 0, hE2.cell 1, hR2.cell 0, hR2.cell 1, hR2.cell 2, hR2.cell 3, hR2.cell 4⟩ | exact ⟨hE3.cell 0, hE3.cell 1, hR3.cell 0, hR3.cell 1, hR3.cell 2, hR3.cell 3, hR3.cell 4⟩ | exact ⟨hE4.cell 0, hE4.cell 1, hR4.cell 0, hR4.cell 1, hR4.cell 2, hR4.cell 3, hR4.cell 4⟩ | exact ⟨hE5.cell 0, hE5.cell 1, hR5.cell 0, hR5.cell 1, hR5.cell 2, hR5.cell 3, hR5.cell 4⟩ | exact ⟨hE6.cell 0, hE6.cell 1, hR6.cell 0, hR6.cell 1, hR6.cell 2, hR6.cell 3, hR6.cell 4⟩)
          refine held_take 0 ?_ rfl (by kernel_rfl) (by kernel_rfl) (by kernel_rfl) (fun _ _ _ h => h) (by rfl) ?_ hHeld ?_
          rotate_left
          · (intro w hSw; (try dsimp only at hSw); go_simp; try with_reducible rfl)
          try simp only [Act.put, List.setIfInBounds_toArray, List.set_cons_zero, List.set_cons_succ]
          refine held_take 1 ?_ rfl (by kernel_rfl) (by kernel_rfl) (by kernel_rfl) (fun _ _ _ h => h) (by rfl) ?_ hHeld ?_
          rotate_left
          · (intro w hSw; (try dsimp only at hSw); go_simp; try with_reducible rfl)
          try simp only [Act.put, List.setIfInBounds_toArray, List.set_cons_zero, List.set_cons_succ]
          refine held_take 2 ?_ rfl (by kernel_rfl) (by kernel_rfl) (by kernel_rfl) (fun _ _ _ h => h) (by rfl) ?_ hHeld ?_
          rotate_left
          · (intro w hSw; (try dsimp only at hSw); go_simp; try with_reducible rfl)
          try simp only [Act.put, List.setIfInBounds_toArray, List.set_cons_zero, List.set_cons_succ]
          refine held_take 4 ?_ rfl (by kernel_rfl) (by kernel_rfl) (by kernel_rfl) (fun _ _ _ h => h) (by rfl) ?_ hHeld ?_
          rotate_left
          · (intro w hSw; (try dsimp only at hSw); go_simp; try with_reducible rfl)
          try simp only [Act.put, List.setIfInBounds_toArray, List.set_cons_zero, List.set_cons_succ]
          refine held_one 3 rfl (by kernel_rfl) (by rfl) (fun K hK => ?_)
          go_simp
          refine (epoch_gt _ hG1).mono ?_
          rintro e v2 ⟨rfl, hb2⟩
          have hE2 := (Eff.of_below (S := fun _ => False) hb2).blk hE1 (fun h => h)
          have hG2 := (Eff.of_below (S := fun _ => False) hb2).blk hG1 (fun h => h)
          have hR2 := (Eff.of_below (S := fun _ => False) hb2).blk hR1 (fun h => h)
          have hs2 := hs1.eff (Eff.of_below (S := fun _ => False) hb2) (fun _ _ h => h)
          have hB2 := hB1.trans (hb2.mono hB1.size)
          clear hE1 hG1 hR1 hs1 hB1 hb2
          refine hK.out _ _ ?_ (fun hHeld2 => ?_)
          · (try dsimp only); (first | exact ⟨hE1.cell 0, hE1.cell 1, hR1.cell 0, hR1.cell 1, hR1.cell 2, hR1.cell 3, hR1.cell 4⟩ | exact ⟨hE2.cell 0, hE2.cell 1, hR2.cell 0, hR2.cell 1, hR2.cell 2, hR2.cell 3, hR2.cell 4⟩ | exact ⟨hE3.cell 0, hE3.cell 1, hR3.cell 0, hR3.cell 1, hR3.cell 2, hR3.cell 3, hR3.cell 4⟩ | exact ⟨hE4.cell 0, hE4.cell 1, hR4.cell 0, hR4.cell 1, hR4.cell 2, hR4.cell 3, hR4.cell 4⟩ | exact ⟨hE5.cell 0, hE5.cell 1, hR5.cell 0, hR5.cell 1, hR5.cell 2, hR5.cell 3, hR5.cell 4⟩ | exact ⟨hE6.cell 0, hE6.cell 1, hR6.cell 0, hR6.cell 1, hR6.cell 2, hR6.cell 3, hR6.cell 4⟩)
          clear hK K hHeld
          have hHeld := hHeld2
          clear hHeld2
          try simp only [Act.put, List.setIfInBounds_toArray, List.set_cons_zero, List.set_cons_succ]
          refine held_one 5 rfl (by kernel_rfl) (by rfl) (fun K hK => ?_)
          go_simp
          refine (same_gt ac af _).mono ?_
          rintro e v3 ⟨rfl, hb3⟩
          have hE3 := (Eff.of_below (S := fun _ => False) hb3).blk hE2 (fun h => h)
          have hG3 := (Eff.of_below (S := fun _ => False) hb3).blk hG2 (fun h => h)
          have hR3 := (Eff.of_below (S := fun _ => False) hb3).blk hR2 (fun h => h)
          have hs3 := hs2.eff (Eff.of_below (S := fun _ => False) hb3) (fun _ _ h => h)
          have hB3 := hB2.trans (hb3.mono hB2.size)
          clear hE2 hG2 hR2 hs2 hB2 hb3
          refine hK.out _ _ ?_ (fun hHeld2 => ?_)
          · (try dsimp only); (first | exact ⟨hE1.cell 0, hE1.cell 1, hR1.cell 0, hR1.cell 1, hR1.cell 2, hR1.cell 3, hR1.cell 4⟩ | exact ⟨hE2.cell 0, hE2.cell 1, hR2.cell 0, hR2.cell 1, hR2.cell 2, hR2.cell 3, hR2.cell 4⟩ | exact ⟨hE3.cell 0, hE3.cell 1, hR3.cell 0, hR3.cell 1, hR3.cell 2, hR3.cell 3, hR3.cell 4⟩ | exact ⟨hE4.cell 0, hE4.cell 1, hR4.cell 0, hR4.cell 1, hR4.cell 2, hR4.cell 3, hR4.cell 4⟩ | exact ⟨hE5.cell 0, hE5.cell 1, hR5.cell 0, hR5.cell 1, hR5.cell 2, hR5.cell 3, hR5.cell 4⟩ | exact ⟨hE6.cell 0, hE6.cell 1, hR6.cell 0, hR6.cell 1, hR6.cell 2, hR6.cell 3, hR6.cell 4⟩)
          clear hK K hHeld
          have hHeld := hHeld2
          clear hHeld2
          try simp only [Act.put, List.setIfInBounds_toArray, List.set_cons_zero, List.set_cons_succ]
          refine held_take 6 ?_ rfl (by kernel_rfl) (by kernel_rfl) (by kernel_rfl) (fun _ _ _ h => h) (by rfl) ?_ hHeld ?_
          rotate_left
          · (intro w hSw; (try dsimp only at hSw); go_simp; try with_reducible rfl)
          try simp only [Act.put, List.setIfInBounds_toArray, List.set_cons_zero, List.set_cons_succ]
          refine held_take 7 ?_ rfl (by kernel_rfl) (by kernel_rfl) (by kernel_rfl) (fun _ _ _ h => h) (by rfl) ?_ hHeld ?_
          rotate_left
          · (intro w hSw; (try dsimp only at hSw); go_simp; try with_reducible rfl)
          try simp only [Act.put, List.setIfInBounds_toArray, List.set_cons_zero, List.set_cons_succ]
          refine held_take 8 ?_ rfl (by kernel_rfl) (by kernel_rfl) (by kernel_rfl) (fun _ _ _ h => h) (by rfl) ?_ hHeld ?_
          rotate_left
          · (intro w hSw; (try dsimp only at hSw); go_simp; try with_reducible rfl)
          try simp only [Act.put, List.setIfInBounds_toArray, List.set_cons_zero, List.set_cons_succ]
          refine held_one 9 rfl (by kernel_rfl) (by rfl) (fun K hK => ?_)
          go_simp
          refine (hop_gt _ hG3).mono ?_
          rintro e w' ⟨rfl, rfl⟩
          refine hK.out _ _ ?_ (fun hHeld2 => ?_)
          · (try dsimp only); (first | exact ⟨hE1.cell 0, hE1.cell 1, hR1.cell 0, hR1.cell 1, hR1.cell 2, hR1.cell 3, hR1.cell 4⟩ | exact ⟨hE2.cell 0, hE2.cell 1, hR2.cell 0, hR2.cell 1, hR2.cell 2, hR2.cell 3, hR2.cell 4⟩ | exact ⟨hE3.cell 0, hE3.cell 1, hR3.cell 0, hR3.cell 1, hR3.cell 2, hR3.cell 3, hR3.cell 4⟩ | exact ⟨hE4.cell 0, hE4.cell 1, hR4.cell 0, hR4.cell 1, hR4.cell 2, hR4.cell 3, hR4.cell 4⟩ | exact ⟨hE5.cell 0, hE5.cell 1, hR5.cell 0, hR5.cell 1, hR5.cell 2, hR5.cell 3, hR5.cell 4⟩ | exact ⟨hE6.cell 0, hE6.cell 1, hR6.cell 0, hR6.cell 1, hR6.cell 2, hR6.cell 3, hR6.cell 4⟩)
          clear hK K hHeld
          have hHeld := hHeld2
          clear hHeld2
          try simp only [Act.put, List.setIfInBounds_toArray, List.set_cons_zero, List.set_cons_succ]
          refine held_take 10 ?_ rfl (by kernel_rfl) (by kernel_rfl) (by kernel_rfl) (fun _ _ _ h => h) (by rfl) ?_ hHeld ?_
          rotate_left
          · (intro w hSw; (try dsimp only at hSw); go_simp; try with_reducible rfl)
          try simp only [Act.put, List.setIfInBounds_toArray, List.set_cons_zero, List.set_cons_succ]
          refine held_take 11 ?_ rfl (by kernel_rfl) (by kernel_rfl) (by kernel_rfl) (fun _ _ _ h => h) (by rfl) ?_ hHeld ?_
          rotate_left
          · (intro w hSw; (try dsimp only at hSw); go_simp; try with_reducible rfl)
          try simp only [Act.put, List.setIfInBounds_toArray, List.set_cons_zero, List.set_cons_succ]
          refine held_take 12 ?_ rfl (by kernel_rfl) (by kernel_rfl) (by kernel_rfl) (fun _ _ _ h => h) (by rfl) ?_ hHeld ?_
          rotate_left
          · (intro w hSw; (try dsimp only at hSw); go_simp; try with_reducible rfl)
          try simp only [Act.put, List.setIfInBounds_toArray, List.set_cons_zero, List.set_cons_succ]
          refine held_take 13 ?_ rfl (by kernel_rfl) (by kernel_rfl) (by kernel_rfl) (fun _ _ _ h => h) (by rfl) ?_ hHeld ?_
          rotate_left
          · (intro w hSw; (try dsimp only at hSw); go_simp; try with_reducible rfl)
          try simp only [Act.put, List.setIfInBounds_toArray, List.set_cons_zero, List.set_cons_succ]
          refine held_take 14 ?_ rfl (by kernel_rfl) (by kernel_rfl) (by kernel_rfl) (fun _ _ _ h => h) (by rfl) ?_ hHeld ?_
          rotate_left
          · (intro w hSw; (try dsimp only at hSw); go_simp; try with_reducible rfl)
          try simp only [Act.put, List.setIfInBounds_toArray, List.set_cons_zero, List.set_cons_succ]
          refine held_take 16 ?_ rfl (by kernel_rfl) (by kernel_rfl) (by kernel_rfl) (fun _ _ _ h => h) (by rfl) ?_ hHeld ?_
          rotate_left
          · (intro w hSw; (try dsimp only at hSw); go_simp; try with_reducible rfl)
          try simp only [Act.put, List.setIfInBounds_toArray, List.set_cons_zero, List.set_cons_succ]
          refine held_take 17 ?_ rfl (by kernel_rfl) (by kernel_rfl) (by kernel_rfl) (fun _ _ _ h => h) (by rfl) ?_ hHeld ?_
          rotate_left
          · (intro w hSw; (try dsimp only at hSw); go_simp; try with_reducible rfl)
          try simp only [Act.put, List.setIfInBounds_toArray, List.set_cons_zero, List.set_cons_succ]
          refine held_one 15 rfl (by kernel_rfl) (by rfl) (fun K hK => ?_)
          go_simp
          refine (would_gt hop 5 5 _ _ hG3 hs3 (would_up HVA.out hFa)).mono ?_
          rintro e v4 ⟨rfl, hb4⟩
          have hE4 := (Eff.of_below (S := fun _ => False) hb4).blk hE3 (fun h => h)
          have hG4 := (Eff.of_below (S := fun _ => False) hb4).blk hG3 (fun h => h)
          have hR4 := (Eff.of_below (S := fun _ => False) hb4).blk hR3 (fun h => h)
          have hs4 := hs3.eff (Eff.of_below (S := fun _ => False) hb4) (fun _ _ h => h)
          have hB4 := hB3.trans (hb4.mono hB3.size)
          clear hE3 hG3 hR3 hs3 hB3 hb4
          refine hK.out _ _ ?_ (fun hHeld2 => ?_)
          · (try dsimp only); (first | exact ⟨hE1.cell 0, hE1.cell 1, hR1.cell 0, hR1.cell 1, hR1.cell 2, hR1.cell 3, hR1.cell 4⟩ | exact ⟨hE2.cell 0, hE2.cell 1, hR2.cell 0, hR2.cell 1, hR2.cell 2, hR2.cell 3, hR2.cell 4⟩ | exact ⟨hE3.cell 0, hE3.cell 1, hR3.cell 0, hR3.cell 1, hR3.cell 2, hR3.cell 3, hR3.cell 4⟩ | exact ⟨hE4.cell 0, hE4.cell 1, hR4.cell 0, hR4.cell 1, hR4.cell 2, hR4.cell 3, hR4.cell 4⟩ | exact ⟨hE5.cell 0, hE5.cell 1, hR5.cell 0, hR5.cell 1, hR5.cell 2, hR5.cell 3, hR5.cell 4⟩ | exact ⟨hE6.cell 0, hE6.cell 1, hR6.cell 0, hR6.cell 1, hR6.cell 2, hR6.cell 3, hR6.cell 4⟩)
          clear hK K hHeld
          have hHeld := hHeld2
          clear hHeld2
          try simp only [Act.put, List.setIfInBounds_toArray, List.set_cons_zero, List.set_cons_succ]
          refine held_take 18 ?_ rfl (by kernel_rfl) (by kernel_rfl) (by kernel_rfl) (fun _ _ _ h => h) (by rfl) ?_ hHeld ?_
          rotate_left
          · (intro w hSw; (try dsimp only at hSw); go_simp; try with_reducible rfl)
          try simp only [Act.put, List.setIfInBounds_toArray, List.set_cons_zero, List.set_cons_succ]
          refine held_take 19 ?_ rfl (by kernel_rfl) (by kernel_rfl) (by kernel_rfl) (fun _ _ _ h => h) (by rfl) ?_ hHeld ?_
          rotate_left
          · (intro w hSw; (try dsimp only at hSw); go_simp; try with_reducible rfl)
          try simp only [Act.put, List.setIfInBounds_toArray, List.set_cons_zero, List.set_cons_succ]
          refine held_take 20 ?_ rfl (by kernel_rfl) (by kernel_rfl) (by kernel_rfl) (fun _ _ _ h => h) (by rfl) ?_ hHeld ?_
          rotate_left
          · (intro w hSw; (try dsimp only at hSw); go_simp; try with_reducible rfl)
          try simp only [Act.put, List.setIfInBounds_toArray, List.set_cons_zero, List.set_cons_succ]
          refine held_take 21 ?_ rfl (by kernel_rfl) (by kernel_rfl) (by kernel_rfl) (fun _ _ _ h => h) (by rfl) ?_ hHeld ?_
          rotate_left
          · (intro w hSw; (try dsimp only at hSw); go_simp; try with_reducible rfl)
          try simp only [Act.put, List.setIfInBounds_toArray, List.set_cons_zero, List.set_cons_succ]
          refine held_take 22 ?_ rfl (by kernel_rfl) (by kernel_rfl) (by kernel_rfl) (fun _ _ _ h => h) (by rfl) ?_ hHeld ?_
          rotate_left
          · (intro w hSw; (try dsimp only at hSw); go_simp; try with_reducible rfl)
          try simp only [Act.put, List.setIfInBounds_toArray, List.set_cons_zero, List.set_cons_succ]
          refine held_one 23 rfl (by kernel_rfl) (by rfl) (fun K hK => ?_)
          go_simp
          refine (would_gt hop 5 2 _ _ hG4 hs4 would_off).mono ?_
          rintro e v5 ⟨rfl, hb5⟩
          have hE5 := (Eff.of_below (S := fun _ => False) hb5).blk hE4 (fun h => h)
          have hG5 := (Eff.of_below (S := fun _ => False) hb5).blk hG4 (fun h => h)
          have hR5 := (Eff.of_below (S := fun _ => False) hb5).blk hR4 (fun h => h)
          have hs5 := hs4.eff (Eff.of_below (S := fun _ => False) hb5) (fun _ _ h => h)
          have hB5 := hB4.trans (hb5.mono hB4.size)
          clear hE4 hG4 hR4 hs4 hB4 hb5
          refine hK.out _ _ ?_ (fun hHeld2 => ?_)
          · (try dsimp only); (first | exact ⟨hE1.cell 0, hE1.cell 1, hR1.cell 0, hR1.cell 1, hR1.cell 2, hR1.cell 3, hR1.cell 4⟩ | exact ⟨hE2.cell 0, hE2.cell 1, hR2.cell 0, hR2.cell 1, hR2.cell 2, hR2.cell 3, hR2.cell 4⟩ | exact ⟨hE3.cell 0, hE3.cell 1, hR3.cell 0, hR3.cell 1, hR3.cell 2, hR3.cell 3, hR3.cell 4⟩ | exact ⟨hE4.cell 0, hE4.cell 1, hR4.cell 0, hR4.cell 1, hR4.cell 2, hR4.cell 3, hR4.cell 4⟩ | exact ⟨hE5.cell 0, hE5.cell 1, hR5.cell 0, hR5.cell 1, hR5.cell 2, hR5.cell 3, hR5.cell 4⟩ | exact ⟨hE6.cell 0, hE6.cell 1, hR6.cell 0, hR6.cell 1, hR6.cell 2, hR6.cell 3, hR6.cell 4⟩)
          clear hK K hHeld
          have hHeld := hHeld2
          clear hHeld2
          try simp only [Act.put, List.setIfInBounds_toArray, List.set_cons_zero, List.set_cons_succ]
          refine held_take 24 ?_ rfl (by kernel_rfl) (by kernel_rfl) (by kernel_rfl) (fun _ _ _ h => h) (by rfl) ?_ hHeld ?_
          rotate_left
          · (intro w hSw; (try dsimp only at hSw); go_simp; try with_reducible rfl)
          try simp only [Act.put, List.setIfInBounds_toArray, List.set_cons_zero, List.set_cons_succ]
          refine held_take 25 ?_ rfl (by kernel_rfl) (by kernel_rfl) (by kernel_rfl) (fun _ _ _ h => h) (by rfl) ?_ hHeld ?_
          rotate_left
          · (intro w hSw; (try dsimp only at hSw); go_simp; try with_reducible rfl)
          try simp only [Act.put, List.setIfInBounds_toArray, List.set_cons_zero, List.set_cons_succ]
          refine held_take 26 ?_ rfl (by kernel_rfl) (by kernel_rfl) (by kernel_rfl) (fun _ _ _ h => h) (by rfl) ?_ hHeld ?_
          rotate_left
          · (intro w hSw; (try dsimp only at hSw); go_simp; try with_reducible rfl)
          try simp only [Act.put, List.setIfInBounds_toArray, List.set_cons_zero, List.set_cons_succ]
          refine held_take 27 ?_ rfl (by kernel_rfl) (by kernel_rfl) (by kernel_rfl) (fun _ _ _ h => h) (by rfl) ?_ hHeld ?_
          rotate_left
          · (intro w hSw; (try dsimp only at hSw); go_simp; try with_reducible rfl)
          try simp only [Act.put, List.setIfInBounds_toArray, List.set_cons_zero, List.set_cons_succ]
          refine held_take 28 ?_ rfl (by kernel_rfl) (by kernel_rfl) (by kernel_rfl) (fun _ _ _ h => h) (by rfl) ?_ hHeld ?_
          rotate_left
          · (intro w hSw; (try dsimp only at hSw); go_simp; try with_reducible rfl)
          try simp only [Act.put, List.setIfInBounds_toArray, List.set_cons_zero, List.set_cons_succ]
          refine held_one 29 rfl (by kernel_rfl) (by rfl) (fun K hK => ?_)
          go_simp
          refine (would_gt hop 3 3 _ _ hG5 hs5 would_out).mono ?_
          rintro e v6 ⟨rfl, hb6⟩
          have hE6 := (Eff.of_below (S := fun _ => False) hb6).blk hE5 (fun h => h)
          have hG6 := (Eff.of_below (S := fun _ => False) hb6).blk hG5 (fun h => h)
          have hR6 := (Eff.of_below (S := fun _ => False) hb6).blk hR5 (fun h => h)
          have hs6 := hs5.eff (Eff.of_below (S := fun _ => False) hb6) (fun _ _ h => h)
          have hB6 := hB5.trans (hb6.mono hB5.size)
          clear hE5 hG5 hR5 hs5 hB5 hb6
          refine hK.out _ _ ?_ (fun hHeld2 => ?_)
          · (try dsimp only); (first | exact ⟨hE1.cell 0, hE1.cell 1, hR1.cell 0, hR1.cell 1, hR1.cell 2, hR1.cell 3, hR1.cell 4⟩ | exact ⟨hE2.cell 0, hE2.cell 1, hR2.cell 0, hR2.cell 1, hR2.cell 2, hR2.cell 3, hR2.cell 4⟩ | exact ⟨hE3.cell 0, hE3.cell 1, hR3.cell 0, hR3.cell 1, hR3.cell 2, hR3.cell 3, hR3.cell 4⟩ | exact ⟨hE4.cell 0, hE4.cell 1, hR4.cell 0, hR4.cell 1, hR4.cell 2, hR4.cell 3, hR4.cell 4⟩ | exact ⟨hE5.cell 0, hE5.cell 1, hR5.cell 0, hR5.cell 1, hR5.cell 2, hR5.cell 3, hR5.cell 4⟩ | exact ⟨hE6.cell 0, hE6.cell 1, hR6.cell 0, hR6.cell 1, hR6.cell 2, hR6.cell 3, hR6.cell 4⟩)
          clear hK K hHeld
          have hHeld := hHeld2
          clear hHeld2
          try simp only [Act.put, List.setIfInBounds_toArray, List.set_cons_zero, List.set_cons_succ]
          refine held_take 30 ?_ rfl (by kernel_rfl) (by kernel_rfl) (by kernel_rfl) (fun _ _ _ h => h) (by rfl) ?_ hHeld ?_
          rotate_left
          · (intro w hSw; (try dsimp only at hSw); go_simp; try with_reducible rfl)
          try simp only [Act.put, List.setIfInBounds_toArray, List.set_cons_zero, List.set_cons_succ]
          refine held_take 31 ?_ rfl (by kernel_rfl) (by kernel_rfl) (by kernel_rfl) (fun _ _ _ h => h) (by rfl) ?_ hHeld ?_
          rotate_left
          · (intro w hSw; (try dsimp only at hSw); go_simp; try with_reducible rfl)
          try simp only [Act.put, List.setIfInBounds_toArray, List.set_cons_zero, List.set_cons_succ]
          refine held_take 32 ?_ rfl (by kernel_rfl) (by kernel_rfl) (by kernel_rfl) (fun _ _ _ h => h) (by rfl) ?_ hHeld ?_
          rotate_left
          · (intro w hSw; (try dsimp only at hSw); go_simp; try with_reducible rfl)
          try simp only [Act.put, List.setIfInBounds_toArray, List.set_cons_zero, List.set_cons_succ]
          refine wpAnyH_done (by kernel_rfl) ?_ _
          clear hHeld
          go_wp2
          go_ret
          exact ⟨rfl, hB6⟩
    · have h1 : Gt.founds ⟨0, 0, 0, F⟩ ac af = false := by simp [Gt.founds, Gt.aboveB, hva, hFa]
      have h2 : Gt.found ⟨0, 0, 0, F⟩ ac af = ⟨0, 0, 0, F⟩ := by rw [Gt.found, h1]; rfl
      have hfd := found_any ⟨0, 0, 0, F⟩ ac af _ hG3
      rw [h1, h2] at hfd
      refine hfd.mono ?_
      rintro e w4 ⟨rfl, hG4, hE4⟩
      have hA4 := hE4.blk hA3 (by omega)
      have hb4 := hE4.blk hb3 (by omega)
      have hB4 := hE4.below hB3 hB3.size (fun i hi => by omega)
      clear hfd h1 h2 hE4 hG3 hA3 hb3 hB3
      have x0 : w4.cell? ⟨w.heap.size, 0, none⟩ = some (.int .i64 ac) := hA4.cell 0
      have x1 : w4.cell? ⟨w.heap.size, 1, none⟩ = some (.int .i64 af) := hA4.cell 1
      have HVA := hid hva
      clear hva
      go_wp2_with fail
      clear x0 x1
      refine (refValid_any ac af _).mono ?_
      rintro e w5 ⟨rfl, hbl5⟩
      rw [HVA.out]
      have hG5 := (Eff.of_below (S := fun _ => False) hbl5).blk hG4 (fun h => h)
      have hA5 := (Eff.of_below (S := fun _ => False) hbl5).blk hA4 (fun h => h)
      have hb5 := (Eff.of_below (S := fun _ => False) hbl5).blk hb4 (fun h => h)
      have hB5 := hB4.trans (hbl5.mono hB4.size)
      clear hG4 hA4 hb4 hB4 hbl5
      have x0 : w5.cell? ⟨w.heap.size, 0, none⟩ = some (.int .i64 ac) := hA5.cell 0
      have y0 : w5.cell? ⟨w.heap.size + 1, 0, none⟩ = some (.int .i64 bc) := hb5.cell 0
      have y1 : w5.cell? ⟨w.heap.size + 1, 1, none⟩ = some (.int .i64 bf) := hb5.cell 1
      go_wp2_with fail
      clear x0 y0 y1
      cases hvb : validE bc bf with
      | false =>
        have h1 : Gt.founds ⟨0, 0, 0, F⟩ bc bf = false := by simp [Gt.founds, Gt.aboveB, hvb]
        have h2 : Gt.found ⟨0, 0, 0, F⟩ bc bf = ⟨0, 0, 0, F⟩ := by rw [Gt.found, h1]; rfl
        have hfd := found_any ⟨0, 0, 0, F⟩ bc bf _ hG5
        rw [h1, h2] at hfd
        refine hfd.mono ?_
        rintro e w6 ⟨rfl, hG6, hE6⟩
        have hA6 := hE6.blk hA5 (by omega)
        have hb6 := hE6.blk hb5 (by omega)
        have hB6 := hE6.below hB5 hB5.size (fun i hi => by omega)
        clear hfd h1 h2 hE6 hG5 hA5 hb5 hB5
        have x0 : w6.cell? ⟨w.heap.size + 1, 0, none⟩ = some (.int .i64 bc) := hb6.cell 0
        have x1 : w6.cell? ⟨w.heap.size + 1, 1, none⟩ = some (.int .i64 bf) := hb6.cell 1
        have HVB := hid hvb
        clear hvb
        go_wp2_with fail
        clear x0 x1
        refine (refValid_any bc bf _).mono ?_
        rintro e w7 ⟨rfl, hbl7⟩
        rw [HVB.out]
        have hG7 := (Eff.of_below (S := fun _ => False) hbl7).blk hG6 (fun h => h)
        have hA7 := (Eff.of_below (S := fun _ => False) hbl7).blk hA6 (fun h => h)
        have hb7 := (Eff.of_below (S := fun _ => False) hbl7).blk hb6 (fun h => h)
        have hB7 := hB6.trans (hbl7.mono hB6.size)
        clear hG6 hA6 hb6 hB6 hbl7
        have x0 : w7.cell? ⟨w.heap.size, 0, none⟩ = some (.int .i64 ac) := hA7.cell 0
        have x1 : w7.cell? ⟨w.heap.size, 1, none⟩ = some (.int .i64 af) := hA7.cell 1
        have y0 : w7.cell? ⟨w.heap.size + 1, 0, none⟩ = some (.int .i64 bc) := hb7.cell 0
        have y1 : w7.cell? ⟨w.heap.size + 1, 1, none⟩ = some (.int .i64 bf) := hb7.cell 1
        go_wp2_with fail
        clear x0 x1 y0 y1
        refine (refValid_any bc bf _).mono ?_
        rintro e w8 ⟨rfl, hbl8⟩
        rw [HVB.out]
        have hb8 := (Eff.of_below (S := fun _ => False) hbl8).blk hb7 (fun h => h)
        have hB8 := hB7.trans (hbl8.mono hB7.size)
        have y0 : w8.cell? ⟨w.heap.size + 1, 0, none⟩ = some (.int .i64 bc) := hb8.cell 0
        clear hb8 hbl8
        go_wp2
        go_ret
        exact ⟨rfl, hB8⟩
      | true =>
        by_cases hFb : F < bc
        · have h1 : Gt.founds ⟨0, 0, 0, F⟩ bc bf = true := by simp [Gt.founds, Gt.aboveB, hvb, hFb, less_zero hvb]
          have h2 : Gt.found ⟨0, 0, 0, F⟩ bc bf = ⟨bc, bf, 0, F⟩ := by rw [Gt.found, h1]; rfl
          have hfd := found_any ⟨0, 0, 0, F⟩ bc bf _ hG5
          rw [h1, h2] at hfd
          refine hfd.mono ?_
          rintro e w6 ⟨rfl, hG6, hE6⟩
          have hA6 := hE6.blk hA5 (by omega)
          have hb6 := hE6.blk hb5 (by omega)
          have hB6 := hE6.below hB5 hB5.size (fun i hi => by omega)
          clear hfd h1 h2 hE6 hG5 hA5 hb5 hB5
          have x0 : w6.cell? ⟨w.heap.size + 1, 0, none⟩ = some (.int .i64 bc) := hb6.cell 0
          have x1 : w6.cell? ⟨w.heap.size + 1, 1, none⟩ = some (.int .i64 bf) := hb6.cell 1
          have HVB := hid hvb
          clear hvb
          go_wp2_with fail
          clear x0 x1
          refine (refValid_any bc bf _).mono ?_
          rintro e w7 ⟨rfl, hbl7⟩
          rw [HVB.out]
          have hG7 := (Eff.of_below (S := fun _ => False) hbl7).blk hG6 (fun h => h)
          have hA7 := (Eff.of_below (S := fun _ => False) hbl7).blk hA6 (fun h => h)
          have hb7 := (Eff.of_below (S := fun _ => False) hbl7).blk hb6 (fun h => h)
          have hB7 := hB6.trans (hbl7.mono hB6.size)
          clear hG6 hA6 hb6 hB6 hbl7
          have x0 : w7.cell? ⟨w.heap.size, 0, none⟩ = some (.int .i64 ac) := hA7.cell 0
          have x1 : w7.cell? ⟨w.heap.size, 1, none⟩ = some (.int .i64 af) := hA7.cell 1
          have y0 : w7.cell? ⟨w.heap.size + 1, 0, none⟩ = some (.int .i64 bc) := hb7.cell 0
          have y1 : w7.cell? ⟨w.heap.size + 1, 1, none⟩ = some (.int .i64 bf) := hb7.cell 1
          have z0 : (w7.alloc (.cells #[.int .i64 ac, .int .i64 af] 28)).cell? ⟨w.heap.size + 1, 0, none⟩ = some (.int .i64 bc) := (hb7.alloc _).cell 0
          have z1 : (w7.alloc (.cells #[.int .i64 ac, .int .i64 af] 28)).cell? ⟨w.heap.size + 1, 1, none⟩ = some (.int .i64 bf) := (hb7.alloc _).cell 1
          go_wp2_with fail
          clear z0 z1
          clear x0 x1 y0 y1
          obtain ⟨v1, hv1⟩ : ∃ v1, v1 = ((w7.alloc (.cells #[.int .i64 bc, .int .i64 bf] 28)).alloc (.cells #[.int .i64 2, .int .i64 5] 3)).alloc (.cells #[.int .i64 bc, .int .i64 bf, .int .i64 hop, .slice (some ⟨w7.heap.size + 1, 0, none⟩) 2 2, .slice none 0 0] 32) := ⟨_, rfl⟩
          have hE1 : Blk v1 w7.heap.size [.int .i64 bc, .int .i64 bf] 28 := by rw [hv1]; exact ((Blk.new w7 _ _).alloc _).alloc _
          have hM1 : Blk v1 (w7.heap.size + 1) [.int .i64 2, .int .i64 5] 3 := by
            rw [hv1, show w7.heap.size + 1 = (w7.alloc (.cells #[.int .i64 bc, .int .i64 bf] 28)).heap.size from by simp]; exact (Blk.new _ _ _).alloc _
          have hR1 : Blk v1 (w7.heap.size + 1 + 1) [.int .i64 bc, .int .i64 bf, .int .i64 hop, .slice (some ⟨w7.heap.size + 1, 0, none⟩) 2 2, .slice none 0 0] 32 := by
            rw [hv1, show w7.heap.size + 1 + 1 = ((w7.alloc (.cells #[.int .i64 bc, .int .i64 bf] 28)).alloc (.cells #[.int .i64 2, .int .i64 5] 3)).heap.size from by simp]; exact Blk.new _ _ _
          have hG1 : Blk v1 G (Gt.mk bc bf 0 F).cells 54 := by rw [hv1]; exact ((hG7.alloc _).alloc _).alloc _
          have hB1 : Below w.heap.size w v1 := by rw [hv1]; exact ((hB7.alloc hB7.size _).alloc (Nat.le_trans hB7.size (by simp)) _).alloc (Nat.le_trans hB7.size (by simp; omega)) _
          rw [← hv1]
          clear hv1
          have hs1 := sl_two hM1
          clear hM1
          have hE1 := hE1.drew
          have hR1 := hR1.drew
          have hG1 := hG1.drew
          have hB1 := hB1.drew
          have hs1 : Sl v1.drew _ _ := hs1
          refine wp_region_held_drew (S := fun w' => w'.cell? ⟨w7.heap.size, 0, none⟩ = some (.int .i64 bc) ∧ w'.cell? ⟨w7.heap.size, 1, none⟩ = some (.int .i64 bf) ∧ w'.cell? ⟨w7.heap.size + 1 + 1, 0, none⟩ = some (.int .i64 bc) ∧ w'.cell? ⟨w7.heap.size + 1 + 1, 1, none⟩ = some (.int .i64 bf) ∧ w'.cell? ⟨w7.heap.size + 1 + 1, 2, none⟩ = some (.int .i64 hop) ∧ w'.cell? ⟨w7.heap.size + 1 + 1, 3, none⟩ = some (.slice (some ⟨w7.heap.size + 1, 0, none⟩) 2 2) ∧ w'.cell? ⟨w7.heap.size + 1 + 1, 4, none⟩ = some (.slice none 0 0)) (by kernel_rfl) ?_ (fun hHeld => ?_)
          · (try dsimp only); (first | exact ⟨hE1.cell 0, hE1.cell 1, hR1.cell 0, hR1.cell 1, hR1.cell 2, hR1.cell 3, hR1.cell 4⟩ | exact ⟨hE2.cell 0, hE2.cell 1, hR2.cell 0, hR2.cell 1, hR2.cell 2, hR2.cell 3, hR2.cell 4⟩ | exact ⟨hE3.cell 0, hE3.cell 1, hR3.cell 0, hR3.cell 1, hR3.cell 2, hR3.cell 3, hR3.cell 4⟩ | exact ⟨hE4.cell 0, hE4.cell 1, hR4.cell 0, hR4.cell 1, hR4.cell 2, hR4.cell 3, hR4.cell 4⟩ | exact ⟨hE5.cell 0, hE5.cell 1, hR5.cell 0, hR5.cell 1, hR5.cell 2, hR5.cell 3, hR5.cell 4⟩ | exact ⟨hE6.cell 0, hE6.cell 1, hR6.cell 0, hR6.cell 1, hR6.cell 2, hR6.cell 3, hR6.cell 4⟩)
          refine held_take 0 ?_ rfl (by kernel_rfl) (by kernel_rfl) (by kernel_rfl) (fun _ _ _ h => h) (by rfl) ?_ hHeld ?_
          rotate_left
          · (intro w hSw; (try dsimp only at hSw); go_simp; try with_reducible rfl)
          try simp only [Act.put, List.setIfInBounds_toArray, List.set_cons_zero, List.set_cons_succ]
          refine held_take 1 ?_ rfl (by kernel_rfl) (by kernel_rfl) (by kernel_rfl) (fun _ _ _ h => h) (by rfl) ?_ hHeld ?_
          rotate_left
          · (intro w hSw; (try dsimp only at hSw); go_simp; try with_reducible rfl)
          try simp only [Act.put, List.setIfInBounds_toArray, List.set_cons_zero, List.set_cons_succ]
          refine held_take 2 ?_ rfl (by kernel_rfl) (by kernel_rfl) (by kernel_rfl) (fun _ _ _ h => h) (by rfl) ?_ hHeld ?_
          rotate_left
          · (intro w hSw; (try dsimp only at hSw); go_simp; try with_reducible rfl)
          try simp only [Act.put, List.setIfInBounds_toArray, List.set_cons_zero, List.set_cons_succ]
          refine held_take 4 ?_ rfl (by kernel_rfl) (by kernel_rfl) (by kernel_rfl) (fun _ _ _ h => h) (by rfl) ?_ hHeld ?_
          rotate_left
          · (intro w hSw; (try dsimp only at hSw); go_simp; try with_reducible rfl)
          try simp only [Act.put, List.setIfInBounds_toArray, List.set_cons_zero, List.set_cons_succ]
          refine held_one 3 rfl (by kernel_rfl) (by rfl) (fun K hK => ?_)
          go_simp
          refine (epoch_gt _ hG1).mono ?_
          rintro e v2 ⟨rfl, hb2⟩
          have hE2 := (Eff.of_below (S := fun _ => False) hb2).blk hE1 (fun h => h)
          have hG2 := (Eff.of_below (S := fun _ => False) hb2).blk hG1 (fun h => h)
          have hR2 := (Eff.of_below (S := fun _ => False) hb2).blk hR1 (fun h => h)
          have hs2 := hs1.eff (Eff.of_below (S := fun _ => False) hb2) (fun _ _ h => h)
          have hB2 := hB1.trans (hb2.mono hB1.size)
          clear hE1 hG1 hR1 hs1 hB1 hb2
          refine hK.out _ _ ?_ (fun hHeld2 => ?_)
          · (try dsimp only); (first | exact ⟨hE1.cell 0, hE1.cell 1, hR1.cell 0, hR1.cell 1, hR1.cell 2, hR1.cell 3, hR1.cell 4⟩ | exact ⟨hE2.cell 0, hE2.cell 1, hR2.cell 0, hR2.cell 1, hR2.cell 2, hR2.cell 3, hR2.cell 4⟩ | exact ⟨hE3.cell 0, hE3.cell 1, hR3.cell 0, hR3.cell 1, hR3.cell 2, hR3.cell 3, hR3.cell 4⟩ | exact ⟨hE4.cell 0, hE4.cell 1, hR4.cell 0, hR4.cell 1, hR4.cell 2, hR4.cell 3, hR4.cell 4⟩ | exact ⟨hE5.cell 0, hE5.cell 1, hR5.cell 0, hR5.cell 1, hR5.cell 2, hR5.cell 3, hR5.cell 4⟩ | exact ⟨hE6.cell 0, hE6.cell 1, hR6.cell 0, hR6.cell 1, hR6.cell 2, hR6.cell 3, hR6.cell 4⟩)
          clear hK K hHeld
          have hHeld := hHeld2
          clear hHeld2
          try simp only [Act.put, List.setIfInBounds_toArray, List.set_cons_zero, List.set_cons_succ]
          refine held_one 5 rfl (by kernel_rfl) (by rfl) (fun K hK => ?_)
          go_simp
          refine (same_gt bc bf _).mono ?_
          rintro e v3 ⟨rfl, hb3⟩
          have hE3 := (Eff.of_below (S := fun _ => False) hb3).blk hE2 (fun h => h)
          have hG3 := (Eff.of_below (S := fun _ => False) hb3).blk hG2 (fun h => h)
          have hR3 := (Eff.of_below (S := fun _ => False) hb3).blk hR2 (fun h => h)
          have hs3 := hs2.eff (Eff.of_below (S := fun _ => False) hb3) (fun _ _ h => h)
          have hB3 := hB2.trans (hb3.mono hB2.size)
          clear hE2 hG2 hR2 hs2 hB2 hb3
          refine hK.out _ _ ?_ (fun hHeld2 => ?_)
          · (try dsimp only); (first | exact ⟨hE1.cell 0, hE1.cell 1, hR1.cell 0, hR1.cell 1, hR1.cell 2, hR1.cell 3, hR1.cell 4⟩ | exact ⟨hE2.cell 0, hE2.cell 1, hR2.cell 0, hR2.cell 1, hR2.cell 2, hR2.cell 3, hR2.cell 4⟩ | exact ⟨hE3.cell 0, hE3.cell 1, hR3.cell 0, hR3.cell 1, hR3.cell 2, hR3.cell 3, hR3.cell 4⟩ | exact ⟨hE4.cell 0, hE4.cell 1, hR4.cell 0, hR4.cell 1, hR4.cell 2, hR4.cell 3, hR4.cell 4⟩ | exact ⟨hE5.cell 0, hE5.cell 1, hR5.cell 0, hR5.cell 1, hR5.cell 2, hR5.cell 3, hR5.cell 4⟩ | exact ⟨hE6.cell 0, hE6.cell 1, hR6.cell 0, hR6.cell 1, hR6.cell 2, hR6.cell 3, hR6.cell 4⟩)
          clear hK K hHeld
          have hHeld := hHeld2
          clear hHeld2
          try simp only [Act.put, List.setIfInBounds_toArray, List.set_cons_zero, List.set_cons_succ]
          refine held_take 6 ?_ rfl (by kernel_rfl) (by kernel_rfl) (by kernel_rfl) (fun _ _ _ h => h) (by rfl) ?_ hHeld ?_
          rotate_left
          · (intro w hSw; (try dsimp only at hSw); go_simp; try with_reducible rfl)
          try simp only [Act.put, List.setIfInBounds_toArray, List.set_cons_zero, List.set_cons_succ]
          refine held_take 7 ?_ rfl (by kernel_rfl) (by kernel_rfl) (by kernel_rfl) (fun _ _ _ h => h) (by rfl) ?_ hHeld ?_
          rotate_left
          · (intro w hSw; (try dsimp only at hSw); go_simp; try with_reducible rfl)
          try simp only [Act.put, List.setIfInBounds_toArray, List.set_cons_zero, List.set_cons_succ]
          refine held_take 8 ?_ rfl (by kernel_rfl) (by kernel_rfl) (by kernel_rfl) (fun _ _ _ h => h) (by rfl) ?_ hHeld ?_
          rotate_left
          · (intro w hSw; (try dsimp only at hSw); go_simp; try with_reducible rfl)
          try simp only [Act.put, List.setIfInBounds_toArray, List.set_cons_zero, List.set_cons_succ]
          refine held_one 9 rfl (by kernel_rfl) (by rfl) (fun K hK => ?_)
          go_simp
          refine (hop_gt _ hG3).mono ?_
          rintro e w' ⟨rfl, rfl⟩
          refine hK.out _ _ ?_ (fun hHeld2 => ?_)
          · (try dsimp only); (first | exact ⟨hE1.cell 0, hE1.cell 1, hR1.cell 0, hR1.cell 1, hR1.cell 2, hR1.cell 3, hR1.cell 4⟩ | exact ⟨hE2.cell 0, hE2.cell 1, hR2.cell 0, hR2.cell 1, hR2.cell 2, hR2.cell 3, hR2.cell 4⟩ | exact ⟨hE3.cell 0, hE3.cell 1, hR3.cell 0, hR3.cell 1, hR3.cell 2, hR3.cell 3, hR3.cell 4⟩ | exact ⟨hE4.cell 0, hE4.cell 1, hR4.cell 0, hR4.cell 1, hR4.cell 2, hR4.cell 3, hR4.cell 4⟩ | exact ⟨hE5.cell 0, hE5.cell 1, hR5.cell 0, hR5.cell 1, hR5.cell 2, hR5.cell 3, hR5.cell 4⟩ | exact ⟨hE6.cell 0, hE6.cell 1, hR6.cell 0, hR6.cell 1, hR6.cell 2, hR6.cell 3, hR6.cell 4⟩)
          clear hK K hHeld
          have hHeld := hHeld2
          clear hHeld2
          try simp only [Act.put, List.setIfInBounds_toArray, List.set_cons_zero, List.set_cons_succ]
          refine held_take 10 ?_ rfl (by kernel_rfl) (by kernel_rfl) (by kernel_rfl) (fun _ _ _ h => h) (by rfl) ?_ hHeld ?_
          rotate_left
          · (intro w hSw; (try dsimp only at hSw); go_simp; try with_reducible rfl)
          try simp only [Act.put, List.setIfInBounds_toArray, List.set_cons_zero, List.set_cons_succ]
          refine held_take 11 ?_ rfl (by kernel_rfl) (by kernel_rfl) (by kernel_rfl) (fun _ _ _ h => h) (by rfl) ?_ hHeld ?_
          rotate_left
          · (intro w hSw; (try dsimp only at hSw); go_simp; try with_reducible rfl)
          try simp only [Act.put, List.setIfInBounds_toArray, List.set_cons_zero, List.set_cons_succ]
          refine held_take 12 ?_ rfl (by kernel_rfl) (by kernel_rfl) (by kernel_rfl) (fun _ _ _ h => h) (by rfl) ?_ hHeld ?_
          rotate_left
          · (intro w hSw; (try dsimp only at hSw); go_simp; try with_reducible rfl)
          try simp only [Act.put, List.setIfInBounds_toArray, List.set_cons_zero, List.set_cons_succ]
          refine held_take 13 ?_ rfl (by kernel_rfl) (by kernel_rfl) (by kernel_rfl) (fun _ _ _ h => h) (by rfl) ?_ hHeld ?_
          rotate_left
          · (intro w hSw; (try dsimp only at hSw); go_simp; try with_reducible rfl)
          try simp only [Act.put, List.setIfInBounds_toArray, List.set_cons_zero, List.set_cons_succ]
          refine held_take 14 ?_ rfl (by kernel_rfl) (by kernel_rfl) (by kernel_rfl) (fun _ _ _ h => h) (by rfl) ?_ hHeld ?_
          rotate_left
          · (intro w hSw; (try dsimp only at hSw); go_simp; try with_reducible rfl)
          try simp only [Act.put, List.setIfInBounds_toArray, List.set_cons_zero, List.set_cons_succ]
          refine held_take 16 ?_ rfl (by kernel_rfl) (by kernel_rfl) (by kernel_rfl) (fun _ _ _ h => h) (by rfl) ?_ hHeld ?_
          rotate_left
          · (intro w hSw; (try dsimp only at hSw); go_simp; try with_reducible rfl)
          try simp only [Act.put, List.setIfInBounds_toArray, List.set_cons_zero, List.set_cons_succ]
          refine held_take 17 ?_ rfl (by kernel_rfl) (by kernel_rfl) (by kernel_rfl) (fun _ _ _ h => h) (by rfl) ?_ hHeld ?_
          rotate_left
          · (intro w hSw; (try dsimp only at hSw); go_simp; try with_reducible rfl)
          try simp only [Act.put, List.setIfInBounds_toArray, List.set_cons_zero, List.set_cons_succ]
          refine held_one 15 rfl (by kernel_rfl) (by rfl) (fun K hK => ?_)
          go_simp
          refine (would_gt hop 5 5 _ _ hG3 hs3 (would_up HVB.out hFb)).mono ?_
          rintro e v4 ⟨rfl, hb4⟩
          have hE4 := (Eff.of_below (S := fun _ => False) hb4).blk hE3 (fun h => h)
          have hG4 := (Eff.of_below (S := fun _ => False) hb4).blk hG3 (fun h => h)
          have hR4 := (Eff.of_below (S := fun _ => False) hb4).blk hR3 (fun h => h)
          have hs4 := hs3.eff (Eff.of_below (S := fun _ => False) hb4) (fun _ _ h => h)
          have hB4 := hB3.trans (hb4.mono hB3.size)
          clear hE3 hG3 hR3 hs3 hB3 hb4
          refine hK.out _ _ ?_ (fun hHeld2 => ?_)
          · (try dsimp only); (first | exact ⟨hE1.cell 0, hE1.cell 1, hR1.cell 0, hR1.cell 1, hR1.cell 2, hR1.cell 3, hR1.cell 4⟩ | exact ⟨hE2.cell 0, hE2.cell 1, hR2.cell 0, hR2.cell 1, hR2.cell 2, hR2.cell 3, hR2.cell 4⟩ | exact ⟨hE3.cell 0, hE3.cell 1, hR3.cell 0, hR3.cell 1, hR3.cell 2, hR3.cell 3, hR3.cell 4⟩ | exact ⟨hE4.cell 0, hE4.cell 1, hR4.cell 0, hR4.cell 1, hR4.cell 2, hR4.cell 3, hR4.cell 4⟩ | exact ⟨hE5.cell 0, hE5.cell 1, hR5.cell 0, hR5.cell 1, hR5.cell 2, hR5.cell 3, hR5.cell 4⟩ | exact ⟨hE6.cell 0, hE6.cell 1, hR6.cell 0, hR6.cell 1, hR6.cell 2, hR6.cell 3, hR6.cell 4⟩)
          clear hK K hHeld
          have hHeld := hHeld2
          clear hHeld2
          try simp only [Act.put, List.setIfInBounds_toArray, List.set_cons_zero, List.set_cons_succ]
          refine held_take 18 ?_ rfl (by kernel_rfl) (by kernel_rfl) (by kernel_rfl) (fun _ _ _ h => h) (by rfl) ?_ hHeld ?_
          rotate_left
          · (intro w hSw; (try dsimp only at hSw); go_simp; try with_reducible rfl)
          try simp only [Act.put, List.setIfInBounds_toArray, List.set_cons_zero, List.set_cons_succ]
          refine held_take 19 ?_ rfl (by kernel_rfl) (by kernel_rfl) (by kernel_rfl) (fun _ _ _ h => h) (by rfl) ?_ hHeld ?_
          rotate_left
          · (intro w hSw; (try dsimp only at hSw); go_simp; try with_reducible rfl)
          try simp only [Act.put, List.setIfInBounds_toArray, List.set_cons_zero, List.set_cons_succ]
          refine held_take 20 ?_ rfl (by kernel_rfl) (by kernel_rfl) (by kernel_rfl) (fun _ _ _ h => h) (by rfl) ?_ hHeld ?_
          rotate_left
          · (intro w hSw; (try dsimp only at hSw); go_simp; try with_reducible rfl)
          try simp only [Act.put, List.setIfInBounds_toArray, List.set_cons_zero, List.set_cons_succ]
          refine held_take 21 ?_ rfl (by kernel_rfl) (by kernel_rfl) (by kernel_rfl) (fun _ _ _ h => h) (by rfl) ?_ hHeld ?_
          rotate_left
          · (intro w hSw; (try dsimp only at hSw); go_simp; try with_reducible rfl)
          try simp only [Act.put, List.setIfInBounds_toArray, List.set_cons_zero, List.set_cons_succ]
          refine held_take 22 ?_ rfl (by kernel_rfl) (by kernel_rfl) (by kernel_rfl) (fun _ _ _ h => h) (by rfl) ?_ hHeld ?_
          rotate_left
          · (intro w hSw; (try dsimp only at hSw); go_simp; try with_reducible rfl)
          try simp only [Act.put, List.setIfInBounds_toArray, List.set_cons_zero, List.set_cons_succ]
          refine held_one 23 rfl (by kernel_rfl) (by rfl) (fun K hK => ?_)
          go_simp
          refine (would_gt hop 5 2 _ _ hG4 hs4 would_off).mono ?_
          rintro e v5 ⟨rfl, hb5⟩
          have hE5 := (Eff.of_below (S := fun _ => False) hb5).blk hE4 (fun h => h)
          have hG5 := (Eff.of_below (S := fun _ => False) hb5).blk hG4 (fun h => h)
          have hR5 := (Eff.of_below (S := fun _ => False) hb5).blk hR4 (fun h => h)
          have hs5 := hs4.eff (Eff.of_below (S := fun _ => False) hb5) (fun _ _ h => h)
          have hB5 := hB4.trans (hb5.mono hB4.size)
          clear hE4 hG4 hR4 hs4 hB4 hb5
          refine hK.out _ _ ?_ (fun hHeld2 => ?_)
          · (try dsimp only); (first | exact ⟨hE1.cell 0, hE1.cell 1, hR1.cell 0, hR1.cell 1, hR1.cell 2, hR1.cell 3, hR1.cell 4⟩ | exact ⟨hE2.cell 0, hE2.cell 1, hR2.cell 0, hR2.cell 1, hR2.cell 2, hR2.cell 3, hR2.cell 4⟩ | exact ⟨hE3.cell 0, hE3.cell 1, hR3.cell 0, hR3.cell 1, hR3.cell 2, hR3.cell 3, hR3.cell 4⟩ | exact ⟨hE4.cell 0, hE4.cell 1, hR4.cell 0, hR4.cell 1, hR4.cell 2, hR4.cell 3, hR4.cell 4⟩ | exact ⟨hE5.cell 0, hE5.cell 1, hR5.cell 0, hR5.cell 1, hR5.cell 2, hR5.cell 3, hR5.cell 4⟩ | exact ⟨hE6.cell 0, hE6.cell 1, hR6.cell 0, hR6.cell 1, hR6.cell 2, hR6.cell 3, hR6.cell 4⟩)
          clear hK K hHeld
          have hHeld := hHeld2
          clear hHeld2
          try simp only [Act.put, List.setIfInBounds_toArray, List.set_cons_zero, List.set_cons_succ]
          refine held_take 24 ?_ rfl (by kernel_rfl) (by kernel_rfl) (by kernel_rfl) (fun _ _ _ h => h) (by rfl) ?_ hHeld ?_
          rotate_left
          · (intro w hSw; (try dsimp only at hSw); go_simp; try with_reducible rfl)
          try simp only [Act.put, List.setIfInBounds_toArray, List.set_cons_zero, List.set_cons_succ]
          refine held_take 25 ?_ rfl (by kernel_rfl) (by kernel_rfl) (by kernel_rfl) (fun _ _ _ h => h) (by rfl) ?_ hHeld ?_
          rotate_left
          · (intro w hSw; (try dsimp only at hSw); go_simp; try with_reducible rfl)
          try simp only [Act.put, List.setIfInBounds_toArray, List.set_cons_zero, List.set_cons_succ]
          refine held_take 26 ?_ rfl (by kernel_rfl) (by kernel_rfl) (by kernel_rfl) (fun _ _ _ h => h) (by rfl) ?_ hHeld ?_
          rotate_left
          · (intro w hSw; (try dsimp only at hSw); go_simp; try with_reducible rfl)
          try simp only [Act.put, List.setIfInBounds_toArray, List.set_cons_zero, List.set_cons_succ]
          refine held_take 27 ?_ rfl (by kernel_rfl) (by kernel_rfl) (by kernel_rfl) (fun _ _ _ h => h) (by rfl) ?_ hHeld ?_
          rotate_left
          · (intro w hSw; (try dsimp only at hSw); go_simp; try with_reducible rfl)
          try simp only [Act.put, List.setIfInBounds_toArray, List.set_cons_zero, List.set_cons_succ]
          refine held_take 28 ?_ rfl (by kernel_rfl) (by kernel_rfl) (by kernel_rfl) (fun _ _ _ h => h) (by rfl) ?_ hHeld ?_
          rotate_left
          · (intro w hSw; (try dsimp only at hSw); go_simp; try with_reducible rfl)
          try simp only [Act.put, List.setIfInBounds_toArray, List.set_cons_zero, List.set_cons_succ]
          refine held_one 29 rfl (by kernel_rfl) (by rfl) (fun K hK => ?_)
          go_simp
          refine (would_gt hop 3 3 _ _ hG5 hs5 would_out).mono ?_
          rintro e v6 ⟨rfl, hb6⟩
          have hE6 := (Eff.of_below (S := fun _ => False) hb6).blk hE5 (fun h => h)
          have hG6 := (Eff.of_below (S := fun _ => False) hb6).blk hG5 (fun h => h)
          have hR6 := (Eff.of_below (S := fun _ => False) hb6).blk hR5 (fun h => h)
          have hs6 := hs5.eff (Eff.of_below (S := fun _ => False) hb6) (fun _ _ h => h)
          have hB6 := hB5.trans (hb6.mono hB5.size)
          clear hE5 hG5 hR5 hs5 hB5 hb6
          refine hK.out _ _ ?_ (fun hHeld2 => ?_)
          · (try dsimp only); (first | exact ⟨hE1.cell 0, hE1.cell 1, hR1.cell 0, hR1.cell 1, hR1.cell 2, hR1.cell 3, hR1.cell 4⟩ | exact ⟨hE2.cell 0, hE2.cell 1, hR2.cell 0, hR2.cell 1, hR2.cell 2, hR2.cell 3, hR2.cell 4⟩ | exact ⟨hE3.cell 0, hE3.cell 1, hR3.cell 0, hR3.cell 1, hR3.cell 2, hR3.cell 3, hR3.cell 4⟩ | exact ⟨hE4.cell 0, hE4.cell 1, hR4.cell 0, hR4.cell 1, hR4.cell 2, hR4.cell 3, hR4.cell 4⟩ | exact ⟨hE5.cell 0, hE5.cell 1, hR5.cell 0, hR5.cell 1, hR5.cell 2, hR5.cell 3, hR5.cell 4⟩ | exact ⟨hE6.cell 0, hE6.cell 1, hR6.cell 0, hR6.cell 1, hR6.cell 2, hR6.cell 3, hR6.cell 4⟩)
          clear hK K hHeld
          have hHeld := hHeld2
          clear hHeld2
          try simp only [Act.put, List.setIfInBounds_toArray, List.set_cons_zero, List.set_cons_succ]
          refine held_take 30 ?_ rfl (by kernel_rfl) (by kernel_rfl) (by kernel_rfl) (fun _ _ _ h => h) (by rfl) ?_ hHeld ?_
          rotate_left
          · (intro w hSw; (try dsimp only at hSw); go_simp; try with_reducible rfl)
          try simp only [Act.put, List.setIfInBounds_toArray, List.set_cons_zero, List.set_cons_succ]
          refine held_take 31 ?_ rfl (by kernel_rfl) (by kernel_rfl) (by kernel_rfl) (fun _ _ _ h => h) (by rfl) ?_ hHeld ?_
          rotate_left
          · (intro w hSw; (try dsimp only at hSw); go_simp; try with_reducible rfl)
          try simp only [Act.put, List.setIfInBounds_toArray, List.set_cons_zero, List.set_cons_succ]
          refine held_take 32 ?_ rfl (by kernel_rfl) (by kernel_rfl) (by kernel_rfl) (fun _ _ _ h => h) (by rfl) ?_ hHeld ?_
          rotate_left
          · (intro w hSw; (try dsimp only at hSw); go_simp; try with_reducible rfl)
          try simp only [Act.put, List.setIfInBounds_toArray, List.set_cons_zero, List.set_cons_succ]
          refine wpAnyH_done (by kernel_rfl) ?_ _
          clear hHeld
          go_wp2
          go_ret
          exact ⟨rfl, hB6⟩
        · have h1 : Gt.founds ⟨0, 0, 0, F⟩ bc bf = false := by simp [Gt.founds, Gt.aboveB, hvb, hFb]
          have h2 : Gt.found ⟨0, 0, 0, F⟩ bc bf = ⟨0, 0, 0, F⟩ := by rw [Gt.found, h1]; rfl
          have hfd := found_any ⟨0, 0, 0, F⟩ bc bf _ hG5
          rw [h1, h2] at hfd
          refine hfd.mono ?_
          rintro e w6 ⟨rfl, hG6, hE6⟩
          have hA6 := hE6.blk hA5 (by omega)
          have hb6 := hE6.blk hb5 (by omega)
          have hB6 := hE6.below hB5 hB5.size (fun i hi => by omega)
          clear hfd h1 h2 hE6 hG5 hA5 hb5 hB5
          have x0 : w6.cell? ⟨w.heap.size + 1, 0, none⟩ = some (.int .i64 bc) := hb6.cell 0
          have x1 : w6.cell? ⟨w.heap.size + 1, 1, none⟩ = some (.int .i64 bf) := hb6.cell 1
          have HVB := hid hvb
          clear hvb
          go_wp2_with fail
          clear x0 x1
          refine (refValid_any bc bf _).mono ?_
          rintro e w7 ⟨rfl, hbl7⟩
          rw [HVB.out]
          have hG7 := (Eff.of_below (S := fun _ => False) hbl7).blk hG6 (fun h => h)
          have hA7 := (Eff.of_below (S := fun _ => False) hbl7).blk hA6 (fun h => h)
          have hb7 := (Eff.of_below (S := fun _ => False) hbl7).blk hb6 (fun h => h)
          have hB7 := hB6.trans (hbl7.mono hB6.size)
          clear hG6 hA6 hb6 hB6 hbl7
          have x0 : w7.cell? ⟨w.heap.size, 0, none⟩ = some (.int .i64 ac) := hA7.cell 0
          have x1 : w7.cell? ⟨w.heap.size, 1, none⟩ = some (.int .i64 af) := hA7.cell 1
          have y0 : w7.cell? ⟨w.heap.size + 1, 0, none⟩ = some (.int .i64 bc) := hb7.cell 0
          have y1 : w7.cell? ⟨w.heap.size + 1, 1, none⟩ = some (.int .i64 bf) := hb7.cell 1
          go_wp2_with fail
          clear x0 x1 y0 y1
          refine (refValid_any bc bf _).mono ?_
          rintro e w8 ⟨rfl, hbl8⟩
          rw [HVB.out]
          have hb8 := (Eff.of_below (S := fun _ => False) hbl8).blk hb7 (fun h => h)
          have hB8 := hB7.trans (hbl8.mono hB7.size)
          have y0 : w8.cell? ⟨w.heap.size + 1, 0, none⟩ = some (.int .i64 bc) := hb8.cell 0
          clear hb8 hbl8
          go_wp2
          go_ret
          exact ⟨rfl, hB8⟩
end Go.Proofs.Ytioaapgpcpepmaa
