/- Errors as plain data: an error with a place. -/
import Derived.Test.YtogcbiooddodlaaDoorSee2
namespace Go.Proofs.YtogcbiooddodlaaDoor
open Go.RowKit
set_option linter.unusedSimpArgs false

theorem is_at (w : World) (a : Addr) : (Instr.typeAssert (.iface 106 (.pointer (some a))) 32 106 true).run Tryd.prog w = .ok (.tuple #[.pointer (some a), .bool true]) w := by kernel_rfl
set_option maxHeartbeats 800000 in
theorem placed_any (code pos : Int) (hc : code ≠ 0) (w : World) : Calls Tryd.prog 22 #[.int .i64 code, .int .i64 pos] w fun e w' => e = .returned (faultV code true pos) ∧ Below w.heap.size w w' := by
  have hz := zero_fault
  have hcb : (code == 0) = false := by simpa using hc
  clear hc
  go_enter Tryd.func22, Tryd.ntmps22
  go_wp2_with fail
  refine ret_fault Tryd.results22 w.heap.size (.int .i64 code) (.bool true) (.int .i64 pos) 35 (by rfl) (Blk.new w _ _) (by rfl) ?_
  exact ⟨rfl, (Below.refl _ _).alloc (Nat.le_refl _) _⟩
theorem sameFault_at (c p : Int) (w : World) : Calls Tryd.prog 47 #[faultV c true p, faultV c true p] w (SaysBool w true) := by
  have h1 : (c == c) = true := by simp
  have h2 : (p == p) = true := by simp
  go_enter Tryd.func47, Tryd.ntmps47
  go_wp2
  go_ret
  exact ⟨rfl, ((Below.refl _ _).alloc (Nat.le_refl _) _).alloc (by simp) _⟩

set_option maxRecDepth 100000 in
set_option maxHeartbeats 4000000 in
theorem fault_at {ad : Int → Addr} {k p : Int} {B : Nat} {w : World} (hE : Errs ad w) (hk : IsErr k) (hb : Blk w B [.int .i64 p, errV ad k] 108) :
    Calls Tryd.prog 48 #[.iface 106 (.pointer (some ⟨B, 0, none⟩))] w fun e w' => e = .returned (faultV k true p) ∧ Below w.heap.size w w' := by
  have hz := zero_fault
  have hna := fun w => is_at w ⟨B, 0, none⟩
  have hk0 : k ≠ 0 := by have := hk.pos; omega
  rw [errV_ne ad hk0] at hb
  have hlB := hb.lt
  go_enter Tryd.func48, Tryd.ntmps48
  go_upto_region 1 with (fail)
  obtain ⟨w0, hw0⟩ : ∃ w0, w0 = w.alloc (.cells #[.int .i64 0, .bool false, .int .i64 0] 35) := ⟨_, rfl⟩
  have hF0 : Blk w0 w.heap.size [.int .i64 0, .bool false, .int .i64 0] 35 := by rw [hw0]; exact Blk.new w _ _
  have hB0 : Below w.heap.size w w0 := by rw [hw0]; exact (Below.refl _ _).alloc (Nat.le_refl _) _
  rw [← hw0]
  have hb0 := (Eff.of_below (S := fun _ => False) hB0).blk hb (fun h => h)
  have hE0 := hE.below hB0
  clear hw0 hb hE
  have c0 : w0.cell? ⟨B, 0, none⟩ = some (.int .i64 p) := hb0.cell 0
  have c1 : w0.cell? ⟨B, 1, none⟩ = some (.iface 136 (.pointer (some (ad k)))) := hb0.cell 1
  go_wp2_with fail
  replace hF0 := hF0.drew
  replace hB0 := hB0.drew
  replace hb0 := hb0.drew
  replace hE0 := hE0.drew
  clear c0 c1
  refine wp_region_held_drew (S := fun w' => w'.cell? ⟨B, 0, none⟩ = some (.int .i64 p) ∧ w'.cell? ⟨B, 1, none⟩ = some (.iface 136 (.pointer (some (ad k))))) (by kernel_rfl) ?_ (fun hHeld => ?_)
  · (try dsimp only); (first | exact ⟨hb0.cell 0, hb0.cell 1⟩ | exact ⟨hb1.cell 0, hb1.cell 1⟩ | exact ⟨hb2.cell 0, hb2.cell 1⟩ | exact ⟨hb3.cell 0, hb3.cell 1⟩)
  refine held_take 0 ?_ rfl (by kernel_rfl) (by kernel_rfl) (by kernel_rfl) (fun _ _ _ h => h) (by rfl) ?_ hHeld ?_
  rotate_left
  · (intro w hSw; (try dsimp only at hSw); go_simp; try with_reducible rfl)
  try simp only [Act.put, List.setIfInBounds_toArray, List.set_cons_zero, List.set_cons_succ]
  refine held_take 1 ?_ rfl (by kernel_rfl) (by kernel_rfl) (by kernel_rfl) (fun _ _ _ h => h) (by rfl) ?_ hHeld ?_
  rotate_left
  · (intro w hSw; (try dsimp only at hSw); go_simp; try with_reducible rfl)
  try simp only [Act.put, List.setIfInBounds_toArray, List.set_cons_zero, List.set_cons_succ]
  refine held_take 2 ?_ rfl (by kernel_rfl) (by kernel_rfl) (by kernel_rfl) (fun _ _ _ h => h) (by rfl) ?_ hHeld ?_
  rotate_left
  · (intro w hSw; (try dsimp only at hSw); go_simp; try with_reducible rfl)
  try simp only [Act.put, List.setIfInBounds_toArray, List.set_cons_zero, List.set_cons_succ]
  refine held_take 3 ?_ rfl (by kernel_rfl) (by kernel_rfl) (by kernel_rfl) (fun _ _ _ h => h) (by rfl) ?_ hHeld ?_
  rotate_left
  · (intro w hSw; (try dsimp only at hSw); go_simp; try with_reducible rfl)
  try simp only [Act.put, List.setIfInBounds_toArray, List.set_cons_zero, List.set_cons_succ]
  refine held_take 5 ?_ rfl (by kernel_rfl) (by kernel_rfl) (by kernel_rfl) (fun _ _ _ h => h) (by rfl) ?_ hHeld ?_
  rotate_left
  · (intro w hSw; (try dsimp only at hSw); go_simp; try with_reducible rfl)
  try simp only [Act.put, List.setIfInBounds_toArray, List.set_cons_zero, List.set_cons_succ]
  refine held_take 6 ?_ rfl (by kernel_rfl) (by kernel_rfl) (by kernel_rfl) (fun _ _ _ h => h) (by rfl) ?_ hHeld ?_
  rotate_left
  · (intro w hSw; (try dsimp only at hSw); go_simp; try with_reducible rfl)
  try simp only [Act.put, List.setIfInBounds_toArray, List.set_cons_zero, List.set_cons_succ]
  refine held_take 7 ?_ rfl (by kernel_rfl) (by kernel_rfl) (by kernel_rfl) (fun _ _ _ h => h) (by rfl) ?_ hHeld ?_
  rotate_left
  · (intro w hSw; (try dsimp only at hSw); go_simp; try with_reducible rfl)
  try simp only [Act.put, List.setIfInBounds_toArray, List.set_cons_zero, List.set_cons_succ]
  refine held_take 8 ?_ rfl (by kernel_rfl) (by kernel_rfl) (by kernel_rfl) (fun _ _ _ h => h) (by rfl) ?_ hHeld ?_
  rotate_left
  · (intro w hSw; (try dsimp only at hSw); go_simp; try with_reducible rfl)
  try simp only [Act.put, List.setIfInBounds_toArray, List.set_cons_zero, List.set_cons_succ]
  refine held_one 4 rfl (by kernel_rfl) (by rfl) (fun K hK => ?_)
  go_simp
  refine (sentinel_any hE0 hk).mono ?_
  rintro e w1 ⟨rfl, hw1⟩
  have hF1 := (Eff.of_below (S := fun _ => False) hw1).blk hF0 (fun h => h)
  have hb1 := (Eff.of_below (S := fun _ => False) hw1).blk hb0 (fun h => h)
  have hB1 := hB0.trans (hw1.mono hB0.size)
  clear hF0 hb0 hB0 hE0 hw1
  refine hK.out _ _ ?_ (fun hHeld2 => ?_)
  · (try dsimp only); (first | exact ⟨hb0.cell 0, hb0.cell 1⟩ | exact ⟨hb1.cell 0, hb1.cell 1⟩ | exact ⟨hb2.cell 0, hb2.cell 1⟩ | exact ⟨hb3.cell 0, hb3.cell 1⟩)
  clear hK K hHeld
  have hHeld := hHeld2
  clear hHeld2
  try simp only [Act.put, List.setIfInBounds_toArray, List.set_cons_zero, List.set_cons_succ]
  refine held_one 9 rfl (by kernel_rfl) (by rfl) (fun K hK => ?_)
  go_simp
  refine (placed_any _ _ hk0 _).mono ?_
  rintro e w2 ⟨rfl, hw2⟩
  have hF2 := (Eff.of_below (S := fun _ => False) hw2).blk hF1 (fun h => h)
  have hb2 := (Eff.of_below (S := fun _ => False) hw2).blk hb1 (fun h => h)
  have hB2 := hB1.trans (hw2.mono hB1.size)
  have hf : ∀ o, w2.frozen? ⟨w.heap.size, o, none⟩ = false := hF2.frozen
  have e0 : w2.cell? ⟨w.heap.size, 0, none⟩ = some (.int .i64 0) := hF2.cell 0
  have e1 : w2.cell? ⟨w.heap.size, 1, none⟩ = some (.bool false) := hF2.cell 1
  have e2 : w2.cell? ⟨w.heap.size, 2, none⟩ = some (.int .i64 0) := hF2.cell 2
  have hp := store_fault hF2 hB2
  clear hF1 hb1 hB1 hw2
  refine hK.out _ _ ?_ (fun hHeld2 => ?_)
  · (try dsimp only); (first | exact ⟨hb0.cell 0, hb0.cell 1⟩ | exact ⟨hb1.cell 0, hb1.cell 1⟩ | exact ⟨hb2.cell 0, hb2.cell 1⟩ | exact ⟨hb3.cell 0, hb3.cell 1⟩)
  clear hK K hHeld
  have hHeld := hHeld2
  clear hHeld2
  try simp only [Act.put, List.setIfInBounds_toArray, List.set_cons_zero, List.set_cons_succ]
  refine held_one 10 rfl (by kernel_rfl) (by rfl) (fun K hK => ?_)
  go_simp
  have hb3 := ((hb2.set_ne (b' := w.heap.size) (by omega) 0 none (.int .i64 k)).set_ne (b' := w.heap.size) (by omega) 1 none (.bool true)).set_ne (b' := w.heap.size) (by omega) 2 none (.int .i64 p)
  refine hK.out _ _ ?_ (fun hHeld2 => ?_)
  · (try dsimp only); (first | exact ⟨hb0.cell 0, hb0.cell 1⟩ | exact ⟨hb1.cell 0, hb1.cell 1⟩ | exact ⟨hb2.cell 0, hb2.cell 1⟩ | exact ⟨hb3.cell 0, hb3.cell 1⟩)
  clear hK K hHeld
  have hHeld := hHeld2
  clear hHeld2
  try simp only [Act.put, List.setIfInBounds_toArray, List.set_cons_zero, List.set_cons_succ]
  refine wpAnyH_done (by kernel_rfl) ?_ _
  clear hHeld
  go_wp2_with fail
  refine ret_fault Tryd.results48 w.heap.size (.int .i64 k) (.bool true) (.int .i64 p) _ (by rfl) (hp _ _ _).1 (by rfl) ?_
  exact ⟨rfl, (hp _ _ _).2⟩

set_option maxHeartbeats 800000 in
theorem same_at {ad : Int → Addr} {k p : Int} {B : Nat} {w : World} (hE : Errs ad w) (hk : IsErr k) (hb : Blk w B [.int .i64 p, errV ad k] 108) :
    Calls Tryd.prog 20 #[.iface 106 (.pointer (some ⟨B, 0, none⟩)), faultV k true p] w (SaysBool w true) := by
  go_enter Tryd.func20, Tryd.ntmps20
  go_wp2_with fail
  obtain ⟨w0, hw0⟩ : ∃ w0, w0 = w.alloc (.cells #[.int .i64 k, .bool true, .int .i64 p] 35) := ⟨_, rfl⟩
  have hF0 : Blk w0 w.heap.size [.int .i64 k, .bool true, .int .i64 p] 35 := by rw [hw0]; exact Blk.new w _ _
  have hB0 : Below w.heap.size w w0 := by rw [hw0]; exact (Below.refl _ _).alloc (Nat.le_refl _) _
  have hb0 := (Eff.of_below (S := fun _ => False) hB0).blk hb (fun h => h)
  have hE0 := hE.below hB0
  rw [← hw0]
  clear hw0 hE hb
  have hE0' := hE0.drew
  have hb0' := hb0.drew
  have hF0' := hF0.drew
  clear hF0 hE0 hb0
  refine wp_region_held_drew (S := fun w' => w'.cell? ⟨w.heap.size, 0, none⟩ = some (.int .i64 k) ∧ w'.cell? ⟨w.heap.size, 1, none⟩ = some (.bool true) ∧ w'.cell? ⟨w.heap.size, 2, none⟩ = some (.int .i64 p)) (by kernel_rfl) ?_ (fun hHeld => ?_)
  · (try dsimp only); (first | exact ⟨hF0'.cell 0, hF0'.cell 1, hF0'.cell 2⟩ | exact ⟨hF1.cell 0, hF1.cell 1, hF1.cell 2⟩ | exact ⟨hF2.cell 0, hF2.cell 1, hF2.cell 2⟩)
  refine held_take 0 ?_ rfl (by kernel_rfl) (by kernel_rfl) (by kernel_rfl) (fun _ _ _ h => h) (by rfl) ?_ hHeld ?_
  rotate_left
  · (intro w hSw; (try dsimp only at hSw); go_simp; try with_reducible rfl)
  try simp only [Act.put, List.setIfInBounds_toArray, List.set_cons_zero, List.set_cons_succ]
  refine held_take 2 ?_ rfl (by kernel_rfl) (by kernel_rfl) (by kernel_rfl) (fun _ _ _ h => h) (by rfl) ?_ hHeld ?_
  rotate_left
  · (intro w hSw; (try dsimp only at hSw); go_simp; try with_reducible rfl)
  try simp only [Act.put, List.setIfInBounds_toArray, List.set_cons_zero, List.set_cons_succ]
  refine held_one 1 rfl (by kernel_rfl) (by rfl) (fun K hK => ?_)
  go_simp
  refine (fault_at hE0' hk hb0').mono ?_
  rintro e w1 ⟨rfl, hb1⟩
  have hF1 := (Eff.of_below (S := fun _ => False) hb1).blk hF0' (fun h => h)
  refine hK.out _ _ ?_ (fun hHeld2 => ?_)
  · (try dsimp only); (first | exact ⟨hF0'.cell 0, hF0'.cell 1, hF0'.cell 2⟩ | exact ⟨hF1.cell 0, hF1.cell 1, hF1.cell 2⟩ | exact ⟨hF2.cell 0, hF2.cell 1, hF2.cell 2⟩)
  clear hK K hHeld
  have hHeld := hHeld2
  clear hHeld2
  try simp only [Act.put, List.setIfInBounds_toArray, List.set_cons_zero, List.set_cons_succ]
  refine held_one 3 rfl (by kernel_rfl) (by rfl) (fun K hK => ?_)
  go_simp
  refine (sameFault_at _ _ _).mono ?_
  rintro e w2 ⟨rfl, hb2⟩
  have hF2 := (Eff.of_below (S := fun _ => False) hb2).blk hF1 (fun h => h)
  refine hK.out _ _ ?_ (fun hHeld2 => ?_)
  · (try dsimp only); (first | exact ⟨hF0'.cell 0, hF0'.cell 1, hF0'.cell 2⟩ | exact ⟨hF1.cell 0, hF1.cell 1, hF1.cell 2⟩ | exact ⟨hF2.cell 0, hF2.cell 1, hF2.cell 2⟩)
  clear hK K hHeld
  have hHeld := hHeld2
  clear hHeld2
  try simp only [Act.put, List.setIfInBounds_toArray, List.set_cons_zero, List.set_cons_succ]
  refine held_take 4 ?_ rfl (by kernel_rfl) (by kernel_rfl) (by kernel_rfl) (fun _ _ _ h => h) (by rfl) ?_ hHeld ?_
  rotate_left
  · (intro w hSw; (try dsimp only at hSw); go_simp; try with_reducible rfl)
  try simp only [Act.put, List.setIfInBounds_toArray, List.set_cons_zero, List.set_cons_succ]
  refine wpAnyH_done (by kernel_rfl) ?_ _
  clear hHeld
  go_wp2
  go_ret
  have hB1 := hB0.drew.trans (hb1.mono hB0.size)
  exact ⟨rfl, hB1.trans (hb2.mono hB1.size)⟩
end Go.Proofs.YtogcbiooddodlaaDoor
