/- The gate: what each of its functions does to memory: the second part. -/
import Derived.Test.YtioaapgpcpepmaaGateWalks
namespace Go.Proofs.Ytioaapgpcpepmaa
open Go.RowKit
set_option linter.unusedSimpArgs false

def Gt.to (g : Gt) (c f hop : Int) : Gt := ⟨c, f, hop, g.floor⟩
def Gt.take (g : Gt) (car dst : Int) (r : RingL) : Gt := if g.would car dst r = true then g.to r.c r.f r.hop else g
/-- Two bools; the gate at b is now g'; nothing else that was there has turned. -/
def TakesTo (w : World) (b : Nat) (g' : Gt) (E : TypeId) (cells : Gt → List Value) (x y : Bool) (e : Ending) (w' : World) : Prop :=
  e = .returned (.tuple #[.bool x, .bool y]) ∧ Blk w' b (cells g') E ∧ Eff (· = b) w w'

theorem gate_put {b : Nat} {g : Gt} {w : World} (hb : Blk w b g.cells 54) (c f hop : Int) :
    Blk (((w.setCell ⟨b, 0, none⟩ (.int .i64 c)).setCell ⟨b, 1, none⟩ (.int .i64 f)).setCell ⟨b, 2, none⟩ (.int .i64 hop)) b (g.to c f hop).cells 54 :=
  ((hb.set 0 (.int .i64 c)).set 1 (.int .i64 f)).set 2 (.int .i64 hop)

set_option maxRecDepth 100000 in
set_option maxHeartbeats 4000000 in
theorem take_any {b : Nat} (g : Gt) (car dst : Int) (r : RingL) (w : World) (hb : Blk w b g.cells 54) (hm : Sl w r.mA (r.ms.map (Value.int .i64))) (hml : r.ms.length ≤ 9223372036854775807) :
    Calls Try.prog 11 #[.pointer (some ⟨b, 0, none⟩), .int .i64 car, .int .i64 dst, r.val] w
      (TakesTo w b (g.take car dst r) 54 Gt.cells (g.would car dst r) (g.would car dst r && !sameE g.c g.f r.c r.f)) := by
  go_enter Try.func11, Try.ntmps11
  go_wp2_with fail
  obtain ⟨w1, hw1⟩ : ∃ w1, w1 = w.alloc (.cells #[.int .i64 r.c, .int .i64 r.f, .int .i64 r.hop, .slice r.mA r.ms.length r.mC, .slice r.eA r.eN r.eC] 32) := ⟨_, rfl⟩
  have hx1 : Blk w1 w.heap.size r.cells 32 := by rw [hw1]; exact Blk.new w _ _
  have hg1 : Blk w1 b g.cells 54 := by rw [hw1]; exact hb.alloc _
  have hE1 : Eff (· = b) w w1 := by rw [hw1]; exact (Eff.refl _ _).alloc _
  have hm1 : Sl w1 r.mA (r.ms.map (Value.int .i64)) := by rw [hw1]; exact hm.eff ((Eff.refl (fun _ => False) w).alloc _) (fun _ _ h => h)
  have hne : b ≠ w.heap.size := by have := hb.lt; omega
  rw [← hw1]
  clear hw1 hb hm
  refine (would_any g car dst r _ hg1 hm1 hml).mono ?_
  rintro e w2 ⟨rfl, hb2⟩
  have hE2 := hE1.step (Eff.of_below (S := fun _ => False) hb2) (fun _ _ h => h.elim)
  have hx2 := (Eff.of_below (S := fun _ => False) hb2).blk hx1 (fun h => h)
  have hg2 := (Eff.of_below (S := fun _ => False) hb2).blk hg1 (fun h => h)
  clear hE1 hb2 hx1 hg1 hm1
  cases hw : g.would car dst r with
  | false =>
    have HT : Hid (g.take car dst r = g) := by simp [Hid, Gt.take, hw]
    have HW := hid hw
    clear hw
    go_wp2
    go_ret2
    exact ⟨by rw [HW.out]; rfl, by rw [HT.out]; exact hg2, hE2⟩
  | true =>
    have HT : Hid (g.take car dst r = g.to r.c r.f r.hop) := by simp [Hid, Gt.take, hw]
    have HW := hid hw
    clear hw
    have d0 : w2.cell? ⟨b, 0, none⟩ = some (.int .i64 g.c) := hg2.cell 0
    have d1 : w2.cell? ⟨b, 1, none⟩ = some (.int .i64 g.f) := hg2.cell 1
    have d2 : w2.cell? ⟨b, 2, none⟩ = some (.int .i64 g.hop) := hg2.cell 2
    have d3 : w2.cell? ⟨w.heap.size, 0, none⟩ = some (.int .i64 r.c) := hx2.cell 0
    have d4 : w2.cell? ⟨w.heap.size, 1, none⟩ = some (.int .i64 r.f) := hx2.cell 1
    have d5 : w2.cell? ⟨w.heap.size, 2, none⟩ = some (.int .i64 r.hop) := hx2.cell 2
    have hf : ∀ o, w2.frozen? ⟨b, o, none⟩ = false := hg2.frozen
    have HP := hid (gate_put hg2 r.c r.f r.hop)
    clear hx2 hg2
    cases hc : (g.c == r.c) with
    | false =>
      have HR : Hid (sameE g.c g.f r.c r.f = false) := by simp [Hid, sameE, hc]
      go_wp2
      go_quiet (fail)
      go_wp2
      go_region
      go_wp2
      go_ret2
      refine ⟨?_, ?_, ?_⟩
      · rw [HR.out, HW.out]; rfl
      · rw [HT.out]; exact HP.out
      · exact (((hE2.drewN _).setCell (p := ⟨b, 0, none⟩) (fun _ => rfl) _).setCell (p := ⟨b, 1, none⟩) (fun _ => rfl) _ |>.setCell (p := ⟨b, 2, none⟩) (fun _ => rfl) _)
    | true =>
      cases hff : (g.f == r.f) with
      | false =>
        have HR : Hid (sameE g.c g.f r.c r.f = false) := by simp [Hid, sameE, hff]
        go_wp2
        go_quiet (fail)
        go_wp2
        go_region
        go_wp2
        go_ret2
        refine ⟨?_, ?_, ?_⟩
        · rw [HR.out, HW.out]; rfl
        · rw [HT.out]; exact HP.out
        · exact (((hE2.drewN _).setCell (p := ⟨b, 0, none⟩) (fun _ => rfl) _).setCell (p := ⟨b, 1, none⟩) (fun _ => rfl) _ |>.setCell (p := ⟨b, 2, none⟩) (fun _ => rfl) _)
      | true =>
        have HR : Hid (sameE g.c g.f r.c r.f = true) := by simp [Hid, sameE, hc, hff]
        go_wp2
        go_quiet (fail)
        go_wp2
        go_region
        go_wp2
        go_ret2
        refine ⟨?_, ?_, ?_⟩
        · rw [HR.out, HW.out]; rfl
        · rw [HT.out]; exact HP.out
        · exact (((hE2.drewN _).setCell (p := ⟨b, 0, none⟩) (fun _ => rfl) _).setCell (p := ⟨b, 1, none⟩) (fun _ => rfl) _ |>.setCell (p := ⟨b, 2, none⟩) (fun _ => rfl) _)

set_option maxHeartbeats 800000 in
theorem gateHop_any {b : Nat} (g : Gt) (w : World) (hb : Blk w b g.cells 54) : Calls Try.prog 16 #[.pointer (some ⟨b, 0, none⟩)] w fun e w' => e = .returned (.int .i64 g.hop) ∧ w = w' := by
  have d2 : w.cell? ⟨b, 2, none⟩ = some (.int .i64 g.hop) := hb.cell 2
  go_enter Try.func16, Try.ntmps16
  go_wp2
  go_ret
  exact ⟨rfl, rfl⟩
set_option maxHeartbeats 800000 in
theorem gateFloor_any {b : Nat} (g : Gt) (w : World) (hb : Blk w b g.cells 54) : Calls Try.prog 19 #[.pointer (some ⟨b, 0, none⟩)] w fun e w' => e = .returned (.int .i64 g.floor) ∧ w = w' := by
  have d3 : w.cell? ⟨b, 3, none⟩ = some (.int .i64 g.floor) := hb.cell 3
  go_enter Try.func19, Try.ntmps19
  go_wp2
  go_ret
  exact ⟨rfl, rfl⟩
set_option maxHeartbeats 800000 in
theorem gateEpoch_any {b : Nat} (g : Gt) (w : World) (hb : Blk w b g.cells 54) : Calls Try.prog 17 #[.pointer (some ⟨b, 0, none⟩)] w fun e w' => e = .returned (.agg #[.int .i64 g.c, .int .i64 g.f]) ∧ Below w.heap.size w w' := by
  have d0 : w.cell? ⟨b, 0, none⟩ = some (.int .i64 g.c) := hb.cell 0
  have d1 : w.cell? ⟨b, 1, none⟩ = some (.int .i64 g.f) := hb.cell 1
  have hl := hb.lt
  go_enter Try.func17, Try.ntmps17
  go_wp2
  exact bodyPost_ret (v := .agg #[.int .i64 g.c, .int .i64 g.f]) (by simp [results, Try.results17, go_sem]) rfl ⟨rfl, (Below.refl _ _).alloc (Nat.le_refl _) _⟩
set_option maxHeartbeats 800000 in
theorem gateClone_any {b : Nat} (g : Gt) (w : World) (hb : Blk w b g.cells 54) : Calls Try.prog 22 #[.pointer (some ⟨b, 0, none⟩)] w fun e w' =>
    e = .returned (.pointer (some ⟨w.heap.size, 0, none⟩)) ∧ Blk w' w.heap.size g.cells 54 ∧ Below w.heap.size w w' ∧ w'.heap.size = w.heap.size + 1 := by
  have d0 : w.cell? ⟨b, 0, none⟩ = some (.int .i64 g.c) := hb.cell 0
  have d1 : w.cell? ⟨b, 1, none⟩ = some (.int .i64 g.f) := hb.cell 1
  have d2 : w.cell? ⟨b, 2, none⟩ = some (.int .i64 g.hop) := hb.cell 2
  have d3 : w.cell? ⟨b, 3, none⟩ = some (.int .i64 g.floor) := hb.cell 3
  go_enter Try.func22, Try.ntmps22
  go_wp2
  go_ret
  exact ⟨rfl, Blk.new w _ _, (Below.refl _ _).alloc (Nat.le_refl _) _, by simp⟩

def Gt.founds (g : Gt) (c f : Int) : Bool := g.aboveB c f && lessE g.c g.f c f
def Gt.found (g : Gt) (c f : Int) : Gt := if g.founds c f = true then g.to c f 0 else g
/-- A bool; the gate at b is now g'; nothing else that was there has turned. -/
def FoundsTo (w : World) (b : Nat) (g' : Gt) (E : TypeId) (cells : Gt → List Value) (x : Bool) (e : Ending) (w' : World) : Prop :=
  e = .returned (.bool x) ∧ Blk w' b (cells g') E ∧ Eff (· = b) w w'

set_option maxRecDepth 100000 in
set_option maxHeartbeats 4000000 in
theorem found_any {b : Nat} (g : Gt) (c f : Int) (w : World) (hb : Blk w b g.cells 54) :
    Calls Try.prog 18 #[.pointer (some ⟨b, 0, none⟩), .agg #[.int .i64 c, .int .i64 f]] w (FoundsTo w b (g.found c f) 54 Gt.cells (g.founds c f)) := by
  go_enter Try.func18, Try.ntmps18
  go_wp2_with fail
  obtain ⟨w1, hw1⟩ : ∃ w1, w1 = w.alloc (.cells #[.int .i64 c, .int .i64 f] 28) := ⟨_, rfl⟩
  have hx1 : Blk w1 w.heap.size [.int .i64 c, .int .i64 f] 28 := by rw [hw1]; exact Blk.new w _ _
  have hg1 : Blk w1 b g.cells 54 := by rw [hw1]; exact hb.alloc _
  have hE1 : Eff (· = b) w w1 := by rw [hw1]; exact (Eff.refl _ _).alloc _
  have hne : b ≠ w.heap.size := by have := hb.lt; omega
  rw [← hw1]
  clear hw1 hb
  have d0 : w1.drew.cell? ⟨w.heap.size, 0, none⟩ = some (.int .i64 c) := hx1.cell 0
  have d1 : w1.drew.cell? ⟨w.heap.size, 1, none⟩ = some (.int .i64 f) := hx1.cell 1
  have d2 : w1.drew.cell? ⟨b, 0, none⟩ = some (.int .i64 g.c) := hg1.cell 0
  have d3 : w1.drew.cell? ⟨b, 1, none⟩ = some (.int .i64 g.f) := hg1.cell 1
  have hg2 := hg1.drew
  have hx2 := hx1.drew
  have hE2 := hE1.drew
  have hl1 : w.heap.size < w1.drew.heap.size := hx1.lt
  have hl2 : b < w1.drew.heap.size := hg1.lt
  clear hx1 hg1 hE1
  cases hv : g.aboveB c f with
  | false =>
    have HX : Hid (g.founds c f = false) := by simp [Hid, Gt.founds, hv]
    have HT : Hid (g.found c f = g) := by rw [Hid, Gt.found, HX.out]; rfl
    have HV := hid hv
    clear hv
    refine wp_region_held_drew (S := fun w' => w'.cell? ⟨w.heap.size, 0, none⟩ = some (.int .i64 c) ∧ w'.cell? ⟨w.heap.size, 1, none⟩ = some (.int .i64 f)) (by kernel_rfl) ?_ (fun hHeld => ?_)
    · (try dsimp only); (first | exact ⟨d0, d1⟩ | exact ⟨(hb3.cell (p := ⟨w.heap.size, 0, none⟩) hl1).trans d0, (hb3.cell (p := ⟨w.heap.size, 1, none⟩) hl1).trans d1⟩)
    refine held_take 0 ?_ rfl (by kernel_rfl) (by kernel_rfl) (by kernel_rfl) (fun _ _ _ h => h) (by rfl) ?_ hHeld ?_
    rotate_left
    · (intro w hSw; (try dsimp only at hSw); go_simp; try with_reducible rfl)
    try simp only [Act.put, List.setIfInBounds_toArray, List.set_cons_zero, List.set_cons_succ]
    refine held_take 1 ?_ rfl (by kernel_rfl) (by kernel_rfl) (by kernel_rfl) (fun _ _ _ h => h) (by rfl) ?_ hHeld ?_
    rotate_left
    · (intro w hSw; (try dsimp only at hSw); go_simp; try with_reducible rfl)
    try simp only [Act.put, List.setIfInBounds_toArray, List.set_cons_zero, List.set_cons_succ]
    refine held_one 2 rfl (by kernel_rfl) (by rfl) (fun K hK => ?_)
    go_simp
    refine (above_any g c f _ hg2).mono ?_
    rintro e w3 ⟨rfl, hb3⟩
    rw [HV.out]
    refine hK.out _ _ ?_ (fun hHeld2 => ?_)
    · (try dsimp only); (first | exact ⟨d0, d1⟩ | exact ⟨(hb3.cell (p := ⟨w.heap.size, 0, none⟩) hl1).trans d0, (hb3.cell (p := ⟨w.heap.size, 1, none⟩) hl1).trans d1⟩)
    clear hK K hHeld
    have hHeld := hHeld2
    clear hHeld2
    try simp only [Act.put, List.setIfInBounds_toArray, List.set_cons_zero, List.set_cons_succ]
    refine held_take 3 ?_ rfl (by kernel_rfl) (by kernel_rfl) (by kernel_rfl) (fun _ _ _ h => h) (by rfl) ?_ hHeld ?_
    rotate_left
    · (intro w hSw; (try dsimp only at hSw); go_simp; try with_reducible rfl)
    try simp only [Act.put, List.setIfInBounds_toArray, List.set_cons_zero, List.set_cons_succ]
    refine held_take 4 ?_ rfl (by kernel_rfl) (by kernel_rfl) (by kernel_rfl) (fun _ _ _ h => h) (by rfl) ?_ hHeld ?_
    rotate_left
    · (intro w hSw; (try dsimp only at hSw); go_simp; try with_reducible rfl)
    try simp only [Act.put, List.setIfInBounds_toArray, List.set_cons_zero, List.set_cons_succ]
    refine held_skip 5 rfl (by kernel_rfl) (by kernel_rfl) (by kernel_rfl) (fun _ _ _ h => h) (by rfl) hHeld ?_
    try simp only [Act.put, List.setIfInBounds_toArray, List.set_cons_zero, List.set_cons_succ]
    refine held_skip 6 rfl (by kernel_rfl) (by kernel_rfl) (by kernel_rfl) (fun _ _ _ h => h) (by rfl) hHeld ?_
    try simp only [Act.put, List.setIfInBounds_toArray, List.set_cons_zero, List.set_cons_succ]
    refine held_skip 7 rfl (by kernel_rfl) (by kernel_rfl) (by kernel_rfl) (fun _ _ _ h => h) (by rfl) hHeld ?_
    try simp only [Act.put, List.setIfInBounds_toArray, List.set_cons_zero, List.set_cons_succ]
    refine held_skip 8 rfl (by kernel_rfl) (by kernel_rfl) (by kernel_rfl) (fun _ _ _ h => h) (by rfl) hHeld ?_
    try simp only [Act.put, List.setIfInBounds_toArray, List.set_cons_zero, List.set_cons_succ]
    refine held_skip 9 rfl (by kernel_rfl) (by kernel_rfl) (by kernel_rfl) (fun _ _ _ h => h) (by rfl) hHeld ?_
    try simp only [Act.put, List.setIfInBounds_toArray, List.set_cons_zero, List.set_cons_succ]
    refine held_skip 10 rfl (by kernel_rfl) (by kernel_rfl) (by kernel_rfl) (fun _ _ _ h => h) (by rfl) hHeld ?_
    try simp only [Act.put, List.setIfInBounds_toArray, List.set_cons_zero, List.set_cons_succ]
    refine held_skip 11 rfl (by kernel_rfl) (by kernel_rfl) (by kernel_rfl) (fun _ _ _ h => h) (by rfl) hHeld ?_
    try simp only [Act.put, List.setIfInBounds_toArray, List.set_cons_zero, List.set_cons_succ]
    refine held_take 12 ?_ rfl (by kernel_rfl) (by kernel_rfl) (by kernel_rfl) (fun _ _ _ h => h) (by rfl) ?_ hHeld ?_
    rotate_left
    · (intro w hSw; (try dsimp only at hSw); go_simp; try with_reducible rfl)
    try simp only [Act.put, List.setIfInBounds_toArray, List.set_cons_zero, List.set_cons_succ]
    refine wpAnyH_done (by kernel_rfl) ?_ _
    clear hHeld
    go_wp2
    go_ret
    exact ⟨ret_bool HX.out.symm, by rw [HT.out]; exact (Eff.of_below (S := fun _ => False) hb3).blk hg2 (fun h => h), hE2.step (Eff.of_below (S := fun _ => False) hb3) (fun _ _ h => h.elim)⟩
  | true =>
    have HV := hid hv
    cases hq : lessE g.c g.f c f with
    | false =>
      have HX : Hid (g.founds c f = false) := by simp [Hid, Gt.founds, hq]
      have HT : Hid (g.found c f = g) := by rw [Hid, Gt.found, HX.out]; rfl
      have HL := hid hq
      clear hv hq
      refine wp_region_held_drew (S := fun w' => w'.cell? ⟨w.heap.size, 0, none⟩ = some (.int .i64 c) ∧ w'.cell? ⟨w.heap.size, 1, none⟩ = some (.int .i64 f) ∧ w'.cell? ⟨b, 0, none⟩ = some (.int .i64 g.c) ∧ w'.cell? ⟨b, 1, none⟩ = some (.int .i64 g.f)) (by kernel_rfl) ?_ (fun hHeld => ?_)
      · (try dsimp only); (first | exact ⟨d0, d1, d2, d3⟩ | exact ⟨(hb4.cell (p := ⟨w.heap.size, 0, none⟩) hl3).trans q0, (hb4.cell (p := ⟨w.heap.size, 1, none⟩) hl3).trans q1, (hb4.cell (p := ⟨b, 0, none⟩) hl4).trans q2, (hb4.cell (p := ⟨b, 1, none⟩) hl4).trans q3⟩ | exact ⟨q0, q1, q2, q3⟩)
      refine held_take 0 ?_ rfl (by kernel_rfl) (by kernel_rfl) (by kernel_rfl) (fun _ _ _ h => h) (by rfl) ?_ hHeld ?_
      rotate_left
      · (intro w hSw; (try dsimp only at hSw); go_simp; try with_reducible rfl)
      try simp only [Act.put, List.setIfInBounds_toArray, List.set_cons_zero, List.set_cons_succ]
      refine held_take 1 ?_ rfl (by kernel_rfl) (by kernel_rfl) (by kernel_rfl) (fun _ _ _ h => h) (by rfl) ?_ hHeld ?_
      rotate_left
      · (intro w hSw; (try dsimp only at hSw); go_simp; try with_reducible rfl)
      try simp only [Act.put, List.setIfInBounds_toArray, List.set_cons_zero, List.set_cons_succ]
      refine held_one 2 rfl (by kernel_rfl) (by rfl) (fun K hK => ?_)
      go_simp
      refine (above_any g c f _ hg2).mono ?_
      rintro e w3 ⟨rfl, hb3⟩
      rw [HV.out]
      have q0 := (hb3.cell (p := ⟨w.heap.size, 0, none⟩) hl1).trans d0
      have q1 := (hb3.cell (p := ⟨w.heap.size, 1, none⟩) hl1).trans d1
      have q2 := (hb3.cell (p := ⟨b, 0, none⟩) hl2).trans d2
      have q3 := (hb3.cell (p := ⟨b, 1, none⟩) hl2).trans d3
      have hl3 := Nat.lt_of_lt_of_le hl1 hb3.size
      have hl4 := Nat.lt_of_lt_of_le hl2 hb3.size
      have hg3 := (Eff.of_below (S := fun _ => False) hb3).blk hg2 (fun h => h)
      have hE3 := hE2.step (Eff.of_below (S := fun _ => False) hb3) (fun _ _ h => h.elim)
      clear d0 d1 d2 d3 hb3
      refine hK.out _ _ ?_ (fun hHeld2 => ?_)
      · (try dsimp only); (first | exact ⟨d0, d1, d2, d3⟩ | exact ⟨(hb4.cell (p := ⟨w.heap.size, 0, none⟩) hl3).trans q0, (hb4.cell (p := ⟨w.heap.size, 1, none⟩) hl3).trans q1, (hb4.cell (p := ⟨b, 0, none⟩) hl4).trans q2, (hb4.cell (p := ⟨b, 1, none⟩) hl4).trans q3⟩ | exact ⟨q0, q1, q2, q3⟩)
      clear hK K hHeld
      have hHeld := hHeld2
      clear hHeld2
      try simp only [Act.put, List.setIfInBounds_toArray, List.set_cons_zero, List.set_cons_succ]
      refine held_take 3 ?_ rfl (by kernel_rfl) (by kernel_rfl) (by kernel_rfl) (fun _ _ _ h => h) (by rfl) ?_ hHeld ?_
      rotate_left
      · (intro w hSw; (try dsimp only at hSw); go_simp; try with_reducible rfl)
      try simp only [Act.put, List.setIfInBounds_toArray, List.set_cons_zero, List.set_cons_succ]
      refine held_take 4 ?_ rfl (by kernel_rfl) (by kernel_rfl) (by kernel_rfl) (fun _ _ _ h => h) (by rfl) ?_ hHeld ?_
      rotate_left
      · (intro w hSw; (try dsimp only at hSw); go_simp; try with_reducible rfl)
      try simp only [Act.put, List.setIfInBounds_toArray, List.set_cons_zero, List.set_cons_succ]
      refine held_take 5 ?_ rfl (by kernel_rfl) (by kernel_rfl) (by kernel_rfl) (fun _ _ _ h => h) (by rfl) ?_ hHeld ?_
      rotate_left
      · (intro w hSw; (try dsimp only at hSw); go_simp; try with_reducible rfl)
      try simp only [Act.put, List.setIfInBounds_toArray, List.set_cons_zero, List.set_cons_succ]
      refine held_take 6 ?_ rfl (by kernel_rfl) (by kernel_rfl) (by kernel_rfl) (fun _ _ _ h => h) (by rfl) ?_ hHeld ?_
      rotate_left
      · (intro w hSw; (try dsimp only at hSw); go_simp; try with_reducible rfl)
      try simp only [Act.put, List.setIfInBounds_toArray, List.set_cons_zero, List.set_cons_succ]
      refine held_take 7 ?_ rfl (by kernel_rfl) (by kernel_rfl) (by kernel_rfl) (fun _ _ _ h => h) (by rfl) ?_ hHeld ?_
      rotate_left
      · (intro w hSw; (try dsimp only at hSw); go_simp; try with_reducible rfl)
      try simp only [Act.put, List.setIfInBounds_toArray, List.set_cons_zero, List.set_cons_succ]
      refine held_take 8 ?_ rfl (by kernel_rfl) (by kernel_rfl) (by kernel_rfl) (fun _ _ _ h => h) (by rfl) ?_ hHeld ?_
      rotate_left
      · (intro w hSw; (try dsimp only at hSw); go_simp; try with_reducible rfl)
      try simp only [Act.put, List.setIfInBounds_toArray, List.set_cons_zero, List.set_cons_succ]
      refine held_take 9 ?_ rfl (by kernel_rfl) (by kernel_rfl) (by kernel_rfl) (fun _ _ _ h => h) (by rfl) ?_ hHeld ?_
      rotate_left
      · (intro w hSw; (try dsimp only at hSw); go_simp; try with_reducible rfl)
      try simp only [Act.put, List.setIfInBounds_toArray, List.set_cons_zero, List.set_cons_succ]
      refine held_one 10 rfl (by kernel_rfl) (by rfl) (fun K hK => ?_)
      go_simp
      refine (epochLess_any g.c g.f c f _).mono ?_
      rintro e w4 ⟨rfl, hb4⟩
      rw [HL.out]
      refine hK.out _ _ ?_ (fun hHeld2 => ?_)
      · (try dsimp only); (first | exact ⟨d0, d1, d2, d3⟩ | exact ⟨(hb4.cell (p := ⟨w.heap.size, 0, none⟩) hl3).trans q0, (hb4.cell (p := ⟨w.heap.size, 1, none⟩) hl3).trans q1, (hb4.cell (p := ⟨b, 0, none⟩) hl4).trans q2, (hb4.cell (p := ⟨b, 1, none⟩) hl4).trans q3⟩ | exact ⟨q0, q1, q2, q3⟩)
      clear hK K hHeld
      have hHeld := hHeld2
      clear hHeld2
      try simp only [Act.put, List.setIfInBounds_toArray, List.set_cons_zero, List.set_cons_succ]
      refine held_take 11 ?_ rfl (by kernel_rfl) (by kernel_rfl) (by kernel_rfl) (fun _ _ _ h => h) (by rfl) ?_ hHeld ?_
      rotate_left
      · (intro w hSw; (try dsimp only at hSw); go_simp; try with_reducible rfl)
      try simp only [Act.put, List.setIfInBounds_toArray, List.set_cons_zero, List.set_cons_succ]
      refine held_take 12 ?_ rfl (by kernel_rfl) (by kernel_rfl) (by kernel_rfl) (fun _ _ _ h => h) (by rfl) ?_ hHeld ?_
      rotate_left
      · (intro w hSw; (try dsimp only at hSw); go_simp; try with_reducible rfl)
      try simp only [Act.put, List.setIfInBounds_toArray, List.set_cons_zero, List.set_cons_succ]
      refine wpAnyH_done (by kernel_rfl) ?_ _
      clear hHeld
      go_wp2
      go_ret
      exact ⟨ret_bool HX.out.symm, by rw [HT.out]; exact (Eff.of_below (S := fun _ => False) hb4).blk hg3 (fun h => h), hE3.step (Eff.of_below (S := fun _ => False) hb4) (fun _ _ h => h.elim)⟩
    | true =>
      have HX : Hid (g.founds c f = true) := by simp [Hid, Gt.founds, hv, hq]
      have HT : Hid (g.found c f = g.to c f 0) := by rw [Hid, Gt.found, HX.out]; rfl
      have HL := hid hq
      clear hv hq
      refine wp_region_held_drew (S := fun w' => w'.cell? ⟨w.heap.size, 0, none⟩ = some (.int .i64 c) ∧ w'.cell? ⟨w.heap.size, 1, none⟩ = some (.int .i64 f) ∧ w'.cell? ⟨b, 0, none⟩ = some (.int .i64 g.c) ∧ w'.cell? ⟨b, 1, none⟩ = some (.int .i64 g.f)) (by kernel_rfl) ?_ (fun hHeld => ?_)
      · (try dsimp only); (first | exact ⟨d0, d1, d2, d3⟩ | exact ⟨(hb4.cell (p := ⟨w.heap.size, 0, none⟩) hl3).trans q0, (hb4.cell (p := ⟨w.heap.size, 1, none⟩) hl3).trans q1, (hb4.cell (p := ⟨b, 0, none⟩) hl4).trans q2, (hb4.cell (p := ⟨b, 1, none⟩) hl4).trans q3⟩ | exact ⟨q0, q1, q2, q3⟩)
      refine held_take 0 ?_ rfl (by kernel_rfl) (by kernel_rfl) (by kernel_rfl) (fun _ _ _ h => h) (by rfl) ?_ hHeld ?_
      rotate_left
      · (intro w hSw; (try dsimp only at hSw); go_simp; try with_reducible rfl)
      try simp only [Act.put, List.setIfInBounds_toArray, List.set_cons_zero, List.set_cons_succ]
      refine held_take 1 ?_ rfl (by kernel_rfl) (by kernel_rfl) (by kernel_rfl) (fun _ _ _ h => h) (by rfl) ?_ hHeld ?_
      rotate_left
      · (intro w hSw; (try dsimp only at hSw); go_simp; try with_reducible rfl)
      try simp only [Act.put, List.setIfInBounds_toArray, List.set_cons_zero, List.set_cons_succ]
      refine held_one 2 rfl (by kernel_rfl) (by rfl) (fun K hK => ?_)
      go_simp
      refine (above_any g c f _ hg2).mono ?_
      rintro e w3 ⟨rfl, hb3⟩
      rw [HV.out]
      have q0 := (hb3.cell (p := ⟨w.heap.size, 0, none⟩) hl1).trans d0
      have q1 := (hb3.cell (p := ⟨w.heap.size, 1, none⟩) hl1).trans d1
      have q2 := (hb3.cell (p := ⟨b, 0, none⟩) hl2).trans d2
      have q3 := (hb3.cell (p := ⟨b, 1, none⟩) hl2).trans d3
      have hl3 := Nat.lt_of_lt_of_le hl1 hb3.size
      have hl4 := Nat.lt_of_lt_of_le hl2 hb3.size
      have hg3 := (Eff.of_below (S := fun _ => False) hb3).blk hg2 (fun h => h)
      have hE3 := hE2.step (Eff.of_below (S := fun _ => False) hb3) (fun _ _ h => h.elim)
      clear d0 d1 d2 d3 hb3
      refine hK.out _ _ ?_ (fun hHeld2 => ?_)
      · (try dsimp only); (first | exact ⟨d0, d1, d2, d3⟩ | exact ⟨(hb4.cell (p := ⟨w.heap.size, 0, none⟩) hl3).trans q0, (hb4.cell (p := ⟨w.heap.size, 1, none⟩) hl3).trans q1, (hb4.cell (p := ⟨b, 0, none⟩) hl4).trans q2, (hb4.cell (p := ⟨b, 1, none⟩) hl4).trans q3⟩ | exact ⟨q0, q1, q2, q3⟩)
      clear hK K hHeld
      have hHeld := hHeld2
      clear hHeld2
      try simp only [Act.put, List.setIfInBounds_toArray, List.set_cons_zero, List.set_cons_succ]
      refine held_take 3 ?_ rfl (by kernel_rfl) (by kernel_rfl) (by kernel_rfl) (fun _ _ _ h => h) (by rfl) ?_ hHeld ?_
      rotate_left
      · (intro w hSw; (try dsimp only at hSw); go_simp; try with_reducible rfl)
      try simp only [Act.put, List.setIfInBounds_toArray, List.set_cons_zero, List.set_cons_succ]
      refine held_take 4 ?_ rfl (by kernel_rfl) (by kernel_rfl) (by kernel_rfl) (fun _ _ _ h => h) (by rfl) ?_ hHeld ?_
      rotate_left
      · (intro w hSw; (try dsimp only at hSw); go_simp; try with_reducible rfl)
      try simp only [Act.put, List.setIfInBounds_toArray, List.set_cons_zero, List.set_cons_succ]
      refine held_take 5 ?_ rfl (by kernel_rfl) (by kernel_rfl) (by kernel_rfl) (fun _ _ _ h => h) (by rfl) ?_ hHeld ?_
      rotate_left
      · (intro w hSw; (try dsimp only at hSw); go_simp; try with_reducible rfl)
      try simp only [Act.put, List.setIfInBounds_toArray, List.set_cons_zero, List.set_cons_succ]
      refine held_take 6 ?_ rfl (by kernel_rfl) (by kernel_rfl) (by kernel_rfl) (fun _ _ _ h => h) (by rfl) ?_ hHeld ?_
      rotate_left
      · (intro w hSw; (try dsimp only at hSw); go_simp; try with_reducible rfl)
      try simp only [Act.put, List.setIfInBounds_toArray, List.set_cons_zero, List.set_cons_succ]
      refine held_take 7 ?_ rfl (by kernel_rfl) (by kernel_rfl) (by kernel_rfl) (fun _ _ _ h => h) (by rfl) ?_ hHeld ?_
      rotate_left
      · (intro w hSw; (try dsimp only at hSw); go_simp; try with_reducible rfl)
      try simp only [Act.put, List.setIfInBounds_toArray, List.set_cons_zero, List.set_cons_succ]
      refine held_take 8 ?_ rfl (by kernel_rfl) (by kernel_rfl) (by kernel_rfl) (fun _ _ _ h => h) (by rfl) ?_ hHeld ?_
      rotate_left
      · (intro w hSw; (try dsimp only at hSw); go_simp; try with_reducible rfl)
      try simp only [Act.put, List.setIfInBounds_toArray, List.set_cons_zero, List.set_cons_succ]
      refine held_take 9 ?_ rfl (by kernel_rfl) (by kernel_rfl) (by kernel_rfl) (fun _ _ _ h => h) (by rfl) ?_ hHeld ?_
      rotate_left
      · (intro w hSw; (try dsimp only at hSw); go_simp; try with_reducible rfl)
      try simp only [Act.put, List.setIfInBounds_toArray, List.set_cons_zero, List.set_cons_succ]
      refine held_one 10 rfl (by kernel_rfl) (by rfl) (fun K hK => ?_)
      go_simp
      refine (epochLess_any g.c g.f c f _).mono ?_
      rintro e w4 ⟨rfl, hb4⟩
      rw [HL.out]
      refine hK.out _ _ ?_ (fun hHeld2 => ?_)
      · (try dsimp only); (first | exact ⟨d0, d1, d2, d3⟩ | exact ⟨(hb4.cell (p := ⟨w.heap.size, 0, none⟩) hl3).trans q0, (hb4.cell (p := ⟨w.heap.size, 1, none⟩) hl3).trans q1, (hb4.cell (p := ⟨b, 0, none⟩) hl4).trans q2, (hb4.cell (p := ⟨b, 1, none⟩) hl4).trans q3⟩ | exact ⟨q0, q1, q2, q3⟩)
      clear hK K hHeld
      have hHeld := hHeld2
      clear hHeld2
      try simp only [Act.put, List.setIfInBounds_toArray, List.set_cons_zero, List.set_cons_succ]
      refine held_take 11 ?_ rfl (by kernel_rfl) (by kernel_rfl) (by kernel_rfl) (fun _ _ _ h => h) (by rfl) ?_ hHeld ?_
      rotate_left
      · (intro w hSw; (try dsimp only at hSw); go_simp; try with_reducible rfl)
      try simp only [Act.put, List.setIfInBounds_toArray, List.set_cons_zero, List.set_cons_succ]
      refine held_take 12 ?_ rfl (by kernel_rfl) (by kernel_rfl) (by kernel_rfl) (fun _ _ _ h => h) (by rfl) ?_ hHeld ?_
      rotate_left
      · (intro w hSw; (try dsimp only at hSw); go_simp; try with_reducible rfl)
      try simp only [Act.put, List.setIfInBounds_toArray, List.set_cons_zero, List.set_cons_succ]
      refine wpAnyH_done (by kernel_rfl) ?_ _
      clear hHeld
      have hg4 := (Eff.of_below (S := fun _ => False) hb4).blk hg3 (fun h => h)
      have hE4 := hE3.step (Eff.of_below (S := fun _ => False) hb4) (fun _ _ h => h.elim)
      have r0 : w4.cell? ⟨w.heap.size, 0, none⟩ = some (.int .i64 c) := (hb4.cell (p := ⟨w.heap.size, 0, none⟩) hl3).trans q0
      have r1 : w4.cell? ⟨w.heap.size, 1, none⟩ = some (.int .i64 f) := (hb4.cell (p := ⟨w.heap.size, 1, none⟩) hl3).trans q1
      have s0 : w4.cell? ⟨b, 0, none⟩ = some (.int .i64 g.c) := hg4.cell 0
      have s1 : w4.cell? ⟨b, 1, none⟩ = some (.int .i64 g.f) := hg4.cell 1
      have s2 : w4.cell? ⟨b, 2, none⟩ = some (.int .i64 g.hop) := hg4.cell 2
      have hf : ∀ o, w4.frozen? ⟨b, o, none⟩ = false := hg4.frozen
      have HP := hid (gate_put hg4 c f 0)
      clear hb4 hg3 hg4 q0 q1 q2 q3
      go_wp2
      go_ret
      exact ⟨ret_bool HX.out.symm, by rw [HT.out]; exact HP.out, (hE4.setCell (p := ⟨b, 0, none⟩) (fun _ => rfl) _).setCell (p := ⟨b, 1, none⟩) (fun _ => rfl) _ |>.setCell (p := ⟨b, 2, none⟩) (fun _ => rfl) _⟩
end Go.Proofs.Ytioaapgpcpepmaa
