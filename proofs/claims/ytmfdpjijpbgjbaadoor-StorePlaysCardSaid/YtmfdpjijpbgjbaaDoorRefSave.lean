/- The document's store: Save, of a memory with power and no fuse. -/
import Derived.Test.YtmfdpjijpbgjbaaDoorRefSaveBad
namespace Go.Proofs.YtmfdpjijpbgjbaaDoor
open Go.RowKit
set_option linter.unusedSimpArgs false

def SixDown (w : World) (base : Nat) (xs : List Int) (n : Int) (v i : Value) (wr : World) : Prop :=
  ∃ k : Nat, k ≤ 6 ∧ i = .int .i64 (5 - (k : Int)) ∧ wr.ownsRow base 5 1 v (xs ++ b6k n k).length ((xs ++ b6k n k).map (Value.int .u8)) ∧ Below base w wr
def RSaveRel (w : World) (b g s : Nat) (c : Cl) (L : List (Int × Int)) (a : (Int × Int) × Int) (i : Value) (wr : World) : Prop :=
  ∃ j : Nat, j ≤ 13 ∧ i = .int .i64 j ∧ RefAt wr b g ⟨setL c.bs (L.take j), 0, false, c.writes + j⟩ ∧ RStIs wr s b a ∧ Eff (At2 b g) w wr
attribute [irreducible] SixDown RSaveRel
theorem take_of_drop {α : Type} {L t : List α} {x : α} {j : Nat} (h : L.drop j = x :: t) : L.take (j + 1) = L.take j ++ [x] := by
  rw [List.take_add, h]
  rfl
/-- One byte put, of a memory with power and no fuse. -/
theorem refPut_up {b g : Nat} {bs : List Int} {ws : Int} (i : Nat) (x : Int) (w : World) (hc : RefAt w b g ⟨bs, 0, false, ws⟩) (hb : IsB bs) (hi : i < bs.length) (hw : 0 ≤ ws ∧ ws < 2000000) :
    Calls Tryd.prog 23 #[.pointer (some ⟨b, 0, none⟩), .int .i64 i, .int .u8 x] w fun e w' => e = .returned (.int .i64 0) ∧ RefAt w' b g ⟨bs.set i x, 0, false, ws + 1⟩ ∧ Eff (At2 b g) w w' := by
  have his : Cl.is ⟨bs, 0, false, ws⟩ (i : Int) = true := by simp only [Cl.is, Bool.and_eq_true, decide_eq_true_eq]; omega
  have hp := put_up (c := ⟨bs, 0, false, ws⟩) rfl rfl his x
  have he : Cl.putE ⟨bs, 0, false, ws⟩ (i : Int) = 0 := by
    unfold Cl.putE Cl.gone
    simp [his]
  refine (refPut_any (i : Int) x w hc ⟨by simp, by simp, hb⟩ ⟨hw.1, by simp only; omega⟩).mono ?_
  intro e w' h
  obtain ⟨h1, h2, h3⟩ := h
  rw [he] at h1
  rw [hp, Int.toNat_natCast] at h2
  exact ⟨h1, h2, h3⟩
set_option maxRecDepth 100000 in
set_option maxHeartbeats 6000000 in
theorem refSave_any {b g s : Nat} {c : Cl} {a : (Int × Int) × Int} (r : Int × Int) (w : World) (hc : RefAt w b g c) (hs : RStIs w s b a) (hr : badE a.1 r = 0) (hok : c.ok) (hd : c.down = false) (hf : c.fuse = 0) (hw : 0 ≤ c.writes ∧ c.writes < 1000000)
    (hlen : 26 ≤ c.bs.length) (hsb : s ≠ b) (hsg : s ≠ g) (hz : -1 ≤ a.2 ∧ a.2 ≤ 1) :
    Calls Tryd.prog 31 #[.pointer (some ⟨s, 0, none⟩), .agg #[.int .i64 r.1, .int .i64 r.2]] w (GivesRSave w b g s (c.kept a.2 r) (r, (saveS a.2 : Int)) 0) := by
  obtain ⟨⟨x, y⟩, z⟩ := a
  obtain ⟨p, q⟩ := r
  have hz : -1 ≤ z ∧ z ≤ 1 := hz
  have hr : badE (x, y) (p, q) = 0 := hr
  have s1 : w.cell? ⟨s, 1, none⟩ = some (.int .i64 x) := hs.cell 1
  have s2 : w.cell? ⟨s, 2, none⟩ = some (.int .i64 y) := hs.cell 2
  have s3 : w.cell? ⟨s, 3, none⟩ = some (.int .i64 z) := hs.cell 3
  have hlt := hs.lt
  have hltc := hc.lt
  have hb1 := (Below.refl w.heap.size w).alloc (Nat.le_refl _) (.cells #[.int .i64 p, .int .i64 q] 61)
  have hx1 : Blk (w.alloc (.cells #[.int .i64 p, .int .i64 q] 61)) w.heap.size [.int .i64 p, .int .i64 q] 61 := Blk.new w _ _
  have hcs := hid (And.intro (hc.below hb1) (And.intro ((Eff.of_below (S := fun _ => False) hb1).blk hs (fun h => h)) (And.intro hx1 hb1)))
  obtain ⟨hsum, hrk⟩ := bad_less hr
  obtain ⟨h1, h2, h3, h4⟩ := hrk
  have h1 : 0 ≤ p := h1
  have h2 : p < 281474976710656 := h2
  have h3 : 0 ≤ q := h3
  have h4 : q < 281474976710656 := h4
  have hor : ¬ (p < x ∨ q < y ∨ (p, q) = (x, y)) := by
    intro h
    have : badE (x, y) (p, q) = 108 := (if_neg (by simp only; omega)).trans (if_pos h)
    omega
  have h5 : x ≤ p := by omega
  have h6 : y ≤ q := by omega
  have hne : p = x → ¬ q = y := fun e1 e2 => hor (.inr (.inr (by rw [e1, e2])))
  clear hr hsum hor
  go_enter Tryd.func31, Tryd.ntmps31
  go_upto_region 3 with (fail)
  go_cut [67] (fun v wx => v = .bool false ∧ ∃ n, wx = (w.alloc (.cells #[.int .i64 p, .int .i64 q] 61)).drewN n)
  case first =>
    have b0 : (_root_.Go.World.drew (w.alloc (.cells #[.int .i64 p, .int .i64 q] 61))).cell? ⟨w.heap.size, 0, none⟩ = some (.int .i64 p) := hx1.cell 0
    have b1 : (_root_.Go.World.drew (w.alloc (.cells #[.int .i64 p, .int .i64 q] 61))).cell? ⟨w.heap.size, 1, none⟩ = some (.int .i64 q) := hx1.cell 1
    have z1 : (_root_.Go.World.drew (w.alloc (.cells #[.int .i64 p, .int .i64 q] 61))).cell? ⟨s, 1, none⟩ = some (.int .i64 x) := (World.cell?_alloc_lt w _ ⟨s, 1, none⟩ hlt).trans s1
    have z2 : (_root_.Go.World.drew (w.alloc (.cells #[.int .i64 p, .int .i64 q] 61))).cell? ⟨s, 2, none⟩ = some (.int .i64 y) := (World.cell?_alloc_lt w _ ⟨s, 2, none⟩ hlt).trans s2
    have d5 : decide (p < x) = false := decide_eq_false (by omega)
    have d6 : decide (q < y) = false := decide_eq_false (by omega)
    clear hx1 s1 s2
    by_cases hpx : p = x
    · have hqy : (q == y) = false := by simpa using hne hpx
      subst hpx
      clear hne d5
      refine wp_region_held_drew (S := fun w' => w'.cell? ⟨w.heap.size, 0, none⟩ = some (.int .i64 p) ∧ w'.cell? ⟨w.heap.size, 1, none⟩ = some (.int .i64 q) ∧ w'.cell? ⟨s, 1, none⟩ = some (.int .i64 p) ∧ w'.cell? ⟨s, 2, none⟩ = some (.int .i64 y)) (by kernel_rfl) ?_ (fun hHeld => ?_)
      · (try dsimp only); (exact ⟨b0, b1, z1, z2⟩)
      refine held_take 0 ?_ rfl (by kernel_rfl) (by kernel_rfl) (by kernel_rfl) (fun _ _ _ h => h) (by rfl) ?_ hHeld ?_
      rotate_left
      · (intro w hSw; (try dsimp only at hSw); go_simp; try with_reducible rfl)
      try simp only [Act.put, List.setIfInBounds_toArray, List.set_cons_zero, List.set_cons_succ]
      refine held_take 1 ?_ rfl (by kernel_rfl) (by kernel_rfl) (by kernel_rfl) (fun _ _ _ h => h) (by rfl) ?_ hHeld ?_
      rotate_left
      · (intro w hSw; (try dsimp only at hSw); go_simp; try with_reducible rfl)
      try simp only [Act.put, List.setIfInBounds_toArray, List.set_cons_zero, List.set_cons_succ]
      refine held_take 2 ?_ rfl (by kernel_rfl) (by kernel_rfl) (by kernel_rfl) (fun _ _ _ h => h) (by rfl) ?_ hHeld ?_
      rotate_left
      · (intro w hSw; (try dsimp only at hSw); go_simp; try with_reducible rfl)
      try simp only [Act.put, List.setIfInBounds_toArray, List.set_cons_zero, List.set_cons_succ]
      refine held_take 3 ?_ rfl (by kernel_rfl) (by kernel_rfl) (by kernel_rfl) (fun _ _ _ h => h) (by rfl) ?_ hHeld ?_
      rotate_left
      · (intro w hSw; (try dsimp only at hSw); go_simp; try with_reducible rfl)
      try simp only [Act.put, List.setIfInBounds_toArray, List.set_cons_zero, List.set_cons_succ]
      refine held_take 4 ?_ rfl (by kernel_rfl) (by kernel_rfl) (by kernel_rfl) (fun _ _ _ h => h) (by rfl) ?_ hHeld ?_
      rotate_left
      · (intro w hSw; (try dsimp only at hSw); go_simp; try with_reducible rfl)
      try simp only [Act.put, List.setIfInBounds_toArray, List.set_cons_zero, List.set_cons_succ]
      refine held_take 5 ?_ rfl (by kernel_rfl) (by kernel_rfl) (by kernel_rfl) (fun _ _ _ h => h) (by rfl) ?_ hHeld ?_
      rotate_left
      · (intro w hSw; (try dsimp only at hSw); go_simp; try with_reducible rfl)
      try simp only [Act.put, List.setIfInBounds_toArray, List.set_cons_zero, List.set_cons_succ]
      refine held_take 6 ?_ rfl (by kernel_rfl) (by kernel_rfl) (by kernel_rfl) (fun _ _ _ h => h) (by rfl) ?_ hHeld ?_
      rotate_left
      · (intro w hSw; (try dsimp only at hSw); go_simp; try with_reducible rfl)
      try simp only [Act.put, List.setIfInBounds_toArray, List.set_cons_zero, List.set_cons_succ]
      refine held_take 7 ?_ rfl (by kernel_rfl) (by kernel_rfl) (by kernel_rfl) (fun _ _ _ h => h) (by rfl) ?_ hHeld ?_
      rotate_left
      · (intro w hSw; (try dsimp only at hSw); go_simp; try with_reducible rfl)
      try simp only [Act.put, List.setIfInBounds_toArray, List.set_cons_zero, List.set_cons_succ]
      refine held_take 8 ?_ rfl (by kernel_rfl) (by kernel_rfl) (by kernel_rfl) (fun _ _ _ h => h) (by rfl) ?_ hHeld ?_
      rotate_left
      · (intro w hSw; (try dsimp only at hSw); go_simp; try with_reducible rfl)
      try simp only [Act.put, List.setIfInBounds_toArray, List.set_cons_zero, List.set_cons_succ]
      refine held_take 9 ?_ rfl (by kernel_rfl) (by kernel_rfl) (by kernel_rfl) (fun _ _ _ h => h) (by rfl) ?_ hHeld ?_
      rotate_left
      · (intro w hSw; (try dsimp only at hSw); go_simp; try with_reducible rfl)
      try simp only [Act.put, List.setIfInBounds_toArray, List.set_cons_zero, List.set_cons_succ]
      refine held_take 10 ?_ rfl (by kernel_rfl) (by kernel_rfl) (by kernel_rfl) (fun _ _ _ h => h) (by rfl) ?_ hHeld ?_
      rotate_left
      · (intro w hSw; (try dsimp only at hSw); go_simp; try with_reducible rfl)
      try simp only [Act.put, List.setIfInBounds_toArray, List.set_cons_zero, List.set_cons_succ]
      refine held_take 11 ?_ rfl (by kernel_rfl) (by kernel_rfl) (by kernel_rfl) (fun _ _ _ h => h) (by rfl) ?_ hHeld ?_
      rotate_left
      · (intro w hSw; (try dsimp only at hSw); go_simp; try with_reducible rfl)
      try simp only [Act.put, List.setIfInBounds_toArray, List.set_cons_zero, List.set_cons_succ]
      refine held_take 12 ?_ rfl (by kernel_rfl) (by kernel_rfl) (by kernel_rfl) (fun _ _ _ h => h) (by rfl) ?_ hHeld ?_
      rotate_left
      · (intro w hSw; (try dsimp only at hSw); go_simp; try with_reducible rfl)
      try simp only [Act.put, List.setIfInBounds_toArray, List.set_cons_zero, List.set_cons_succ]
      refine held_take 13 ?_ rfl (by kernel_rfl) (by kernel_rfl) (by kernel_rfl) (fun _ _ _ h => h) (by rfl) ?_ hHeld ?_
      rotate_left
      · (intro w hSw; (try dsimp only at hSw); go_simp; try with_reducible rfl)
      try simp only [Act.put, List.setIfInBounds_toArray, List.set_cons_zero, List.set_cons_succ]
      refine held_take 14 ?_ rfl (by kernel_rfl) (by kernel_rfl) (by kernel_rfl) (fun _ _ _ h => h) (by rfl) ?_ hHeld ?_
      rotate_left
      · (intro w hSw; (try dsimp only at hSw); go_simp; try with_reducible rfl)
      try simp only [Act.put, List.setIfInBounds_toArray, List.set_cons_zero, List.set_cons_succ]
      refine held_take 15 ?_ rfl (by kernel_rfl) (by kernel_rfl) (by kernel_rfl) (fun _ _ _ h => h) (by rfl) ?_ hHeld ?_
      rotate_left
      · (intro w hSw; (try dsimp only at hSw); go_simp; try with_reducible rfl)
      try simp only [Act.put, List.setIfInBounds_toArray, List.set_cons_zero, List.set_cons_succ]
      refine held_take 16 ?_ rfl (by kernel_rfl) (by kernel_rfl) (by kernel_rfl) (fun _ _ _ h => h) (by rfl) ?_ hHeld ?_
      rotate_left
      · (intro w hSw; (try dsimp only at hSw); go_simp; try with_reducible rfl)
      try simp only [Act.put, List.setIfInBounds_toArray, List.set_cons_zero, List.set_cons_succ]
      refine held_take 17 ?_ rfl (by kernel_rfl) (by kernel_rfl) (by kernel_rfl) (fun _ _ _ h => h) (by rfl) ?_ hHeld ?_
      rotate_left
      · (intro w hSw; (try dsimp only at hSw); go_simp; try with_reducible rfl)
      try simp only [Act.put, List.setIfInBounds_toArray, List.set_cons_zero, List.set_cons_succ]
      refine held_take 18 ?_ rfl (by kernel_rfl) (by kernel_rfl) (by kernel_rfl) (fun _ _ _ h => h) (by rfl) ?_ hHeld ?_
      rotate_left
      · (intro w hSw; (try dsimp only at hSw); go_simp; try with_reducible rfl)
      try simp only [Act.put, List.setIfInBounds_toArray, List.set_cons_zero, List.set_cons_succ]
      refine held_take 19 ?_ rfl (by kernel_rfl) (by kernel_rfl) (by kernel_rfl) (fun _ _ _ h => h) (by rfl) ?_ hHeld ?_
      rotate_left
      · (intro w hSw; (try dsimp only at hSw); go_simp; try with_reducible rfl)
      try simp only [Act.put, List.setIfInBounds_toArray, List.set_cons_zero, List.set_cons_succ]
      refine held_take 20 ?_ rfl (by kernel_rfl) (by kernel_rfl) (by kernel_rfl) (fun _ _ _ h => h) (by rfl) ?_ hHeld ?_
      rotate_left
      · (intro w hSw; (try dsimp only at hSw); go_simp; try with_reducible rfl)
      try simp only [Act.put, List.setIfInBounds_toArray, List.set_cons_zero, List.set_cons_succ]
      refine held_take 21 ?_ rfl (by kernel_rfl) (by kernel_rfl) (by kernel_rfl) (fun _ _ _ h => h) (by rfl) ?_ hHeld ?_
      rotate_left
      · (intro w hSw; (try dsimp only at hSw); go_simp; try with_reducible rfl)
      try simp only [Act.put, List.setIfInBounds_toArray, List.set_cons_zero, List.set_cons_succ]
      refine held_take 22 ?_ rfl (by kernel_rfl) (by kernel_rfl) (by kernel_rfl) (fun _ _ _ h => h) (by rfl) ?_ hHeld ?_
      rotate_left
      · (intro w hSw; (try dsimp only at hSw); go_simp; try with_reducible rfl)
      try simp only [Act.put, List.setIfInBounds_toArray, List.set_cons_zero, List.set_cons_succ]
      refine held_take 23 ?_ rfl (by kernel_rfl) (by kernel_rfl) (by kernel_rfl) (fun _ _ _ h => h) (by rfl) ?_ hHeld ?_
      rotate_left
      · (intro w hSw; (try dsimp only at hSw); go_simp; try with_reducible rfl)
      try simp only [Act.put, List.setIfInBounds_toArray, List.set_cons_zero, List.set_cons_succ]
      refine held_take 24 ?_ rfl (by kernel_rfl) (by kernel_rfl) (by kernel_rfl) (fun _ _ _ h => h) (by rfl) ?_ hHeld ?_
      rotate_left
      · (intro w hSw; (try dsimp only at hSw); go_simp; try with_reducible rfl)
      try simp only [Act.put, List.setIfInBounds_toArray, List.set_cons_zero, List.set_cons_succ]
      refine held_take 25 ?_ rfl (by kernel_rfl) (by kernel_rfl) (by kernel_rfl) (fun _ _ _ h => h) (by rfl) ?_ hHeld ?_
      rotate_left
      · (intro w hSw; (try dsimp only at hSw); go_simp; try with_reducible rfl)
      try simp only [Act.put, List.setIfInBounds_toArray, List.set_cons_zero, List.set_cons_succ]
      refine held_take 26 ?_ rfl (by kernel_rfl) (by kernel_rfl) (by kernel_rfl) (fun _ _ _ h => h) (by rfl) ?_ hHeld ?_
      rotate_left
      · (intro w hSw; (try dsimp only at hSw); go_simp; try with_reducible rfl)
      try simp only [Act.put, List.setIfInBounds_toArray, List.set_cons_zero, List.set_cons_succ]
      refine held_take 27 ?_ rfl (by kernel_rfl) (by kernel_rfl) (by kernel_rfl) (fun _ _ _ h => h) (by rfl) ?_ hHeld ?_
      rotate_left
      · (intro w hSw; (try dsimp only at hSw); go_simp; try with_reducible rfl)
      try simp only [Act.put, List.setIfInBounds_toArray, List.set_cons_zero, List.set_cons_succ]
      refine held_take 28 ?_ rfl (by kernel_rfl) (by kernel_rfl) (by kernel_rfl) (fun _ _ _ h => h) (by rfl) ?_ hHeld ?_
      rotate_left
      · (intro w hSw; (try dsimp only at hSw); go_simp; try with_reducible rfl)
      try simp only [Act.put, List.setIfInBounds_toArray, List.set_cons_zero, List.set_cons_succ]
      refine held_take 29 ?_ rfl (by kernel_rfl) (by kernel_rfl) (by kernel_rfl) (fun _ _ _ h => h) (by rfl) ?_ hHeld ?_
      rotate_left
      · (intro w hSw; (try dsimp only at hSw); go_simp; try with_reducible rfl)
      try simp only [Act.put, List.setIfInBounds_toArray, List.set_cons_zero, List.set_cons_succ]
      refine held_take 30 ?_ rfl (by kernel_rfl) (by kernel_rfl) (by kernel_rfl) (fun _ _ _ h => h) (by rfl) ?_ hHeld ?_
      rotate_left
      · (intro w hSw; (try dsimp only at hSw); go_simp; try with_reducible rfl)
      try simp only [Act.put, List.setIfInBounds_toArray, List.set_cons_zero, List.set_cons_succ]
      refine held_take 31 ?_ rfl (by kernel_rfl) (by kernel_rfl) (by kernel_rfl) (fun _ _ _ h => h) (by rfl) ?_ hHeld ?_
      rotate_left
      · (intro w hSw; (try dsimp only at hSw); go_simp; try with_reducible rfl)
      try simp only [Act.put, List.setIfInBounds_toArray, List.set_cons_zero, List.set_cons_succ]
      refine held_take 32 ?_ rfl (by kernel_rfl) (by kernel_rfl) (by kernel_rfl) (fun _ _ _ h => h) (by rfl) ?_ hHeld ?_
      rotate_left
      · (intro w hSw; (try dsimp only at hSw); go_simp; try with_reducible rfl)
      try simp only [Act.put, List.setIfInBounds_toArray, List.set_cons_zero, List.set_cons_succ]
      refine held_take 33 ?_ rfl (by kernel_rfl) (by kernel_rfl) (by kernel_rfl) (fun _ _ _ h => h) (by rfl) ?_ hHeld ?_
      rotate_left
      · (intro w hSw; (try dsimp only at hSw); go_simp; try with_reducible rfl)
      try simp only [Act.put, List.setIfInBounds_toArray, List.set_cons_zero, List.set_cons_succ]
      refine held_take 34 ?_ rfl (by kernel_rfl) (by kernel_rfl) (by kernel_rfl) (fun _ _ _ h => h) (by rfl) ?_ hHeld ?_
      rotate_left
      · (intro w hSw; (try dsimp only at hSw); go_simp; try with_reducible rfl)
      try simp only [Act.put, List.setIfInBounds_toArray, List.set_cons_zero, List.set_cons_succ]
      refine held_take 35 ?_ rfl (by kernel_rfl) (by kernel_rfl) (by kernel_rfl) (fun _ _ _ h => h) (by rfl) ?_ hHeld ?_
      rotate_left
      · (intro w hSw; (try dsimp only at hSw); go_simp; try with_reducible rfl)
      try simp only [Act.put, List.setIfInBounds_toArray, List.set_cons_zero, List.set_cons_succ]
      refine held_take 36 ?_ rfl (by kernel_rfl) (by kernel_rfl) (by kernel_rfl) (fun _ _ _ h => h) (by rfl) ?_ hHeld ?_
      rotate_left
      · (intro w hSw; (try dsimp only at hSw); go_simp; try with_reducible rfl)
      try simp only [Act.put, List.setIfInBounds_toArray, List.set_cons_zero, List.set_cons_succ]
      refine held_take 37 ?_ rfl (by kernel_rfl) (by kernel_rfl) (by kernel_rfl) (fun _ _ _ h => h) (by rfl) ?_ hHeld ?_
      rotate_left
      · (intro w hSw; (try dsimp only at hSw); go_simp; try with_reducible rfl)
      try simp only [Act.put, List.setIfInBounds_toArray, List.set_cons_zero, List.set_cons_succ]
      refine wpAnyH_done (by kernel_rfl) ?_ _
      clear hHeld
      go_wp2_with fail
      go_meet
      exact ⟨rfl, 1, rfl⟩
    · have hpx' : (p == x) = false := by simpa using hpx
      clear hne hpx
      refine wp_region_held_drew (S := fun w' => w'.cell? ⟨w.heap.size, 0, none⟩ = some (.int .i64 p) ∧ w'.cell? ⟨w.heap.size, 1, none⟩ = some (.int .i64 q) ∧ w'.cell? ⟨s, 1, none⟩ = some (.int .i64 x) ∧ w'.cell? ⟨s, 2, none⟩ = some (.int .i64 y)) (by kernel_rfl) ?_ (fun hHeld => ?_)
      · (try dsimp only); (exact ⟨b0, b1, z1, z2⟩)
      refine held_take 0 ?_ rfl (by kernel_rfl) (by kernel_rfl) (by kernel_rfl) (fun _ _ _ h => h) (by rfl) ?_ hHeld ?_
      rotate_left
      · (intro w hSw; (try dsimp only at hSw); go_simp; try with_reducible rfl)
      try simp only [Act.put, List.setIfInBounds_toArray, List.set_cons_zero, List.set_cons_succ]
      refine held_take 1 ?_ rfl (by kernel_rfl) (by kernel_rfl) (by kernel_rfl) (fun _ _ _ h => h) (by rfl) ?_ hHeld ?_
      rotate_left
      · (intro w hSw; (try dsimp only at hSw); go_simp; try with_reducible rfl)
      try simp only [Act.put, List.setIfInBounds_toArray, List.set_cons_zero, List.set_cons_succ]
      refine held_take 2 ?_ rfl (by kernel_rfl) (by kernel_rfl) (by kernel_rfl) (fun _ _ _ h => h) (by rfl) ?_ hHeld ?_
      rotate_left
      · (intro w hSw; (try dsimp only at hSw); go_simp; try with_reducible rfl)
      try simp only [Act.put, List.setIfInBounds_toArray, List.set_cons_zero, List.set_cons_succ]
      refine held_take 3 ?_ rfl (by kernel_rfl) (by kernel_rfl) (by kernel_rfl) (fun _ _ _ h => h) (by rfl) ?_ hHeld ?_
      rotate_left
      · (intro w hSw; (try dsimp only at hSw); go_simp; try with_reducible rfl)
      try simp only [Act.put, List.setIfInBounds_toArray, List.set_cons_zero, List.set_cons_succ]
      refine held_take 4 ?_ rfl (by kernel_rfl) (by kernel_rfl) (by kernel_rfl) (fun _ _ _ h => h) (by rfl) ?_ hHeld ?_
      rotate_left
      · (intro w hSw; (try dsimp only at hSw); go_simp; try with_reducible rfl)
      try simp only [Act.put, List.setIfInBounds_toArray, List.set_cons_zero, List.set_cons_succ]
      refine held_take 5 ?_ rfl (by kernel_rfl) (by kernel_rfl) (by kernel_rfl) (fun _ _ _ h => h) (by rfl) ?_ hHeld ?_
      rotate_left
      · (intro w hSw; (try dsimp only at hSw); go_simp; try with_reducible rfl)
      try simp only [Act.put, List.setIfInBounds_toArray, List.set_cons_zero, List.set_cons_succ]
      refine held_take 6 ?_ rfl (by kernel_rfl) (by kernel_rfl) (by kernel_rfl) (fun _ _ _ h => h) (by rfl) ?_ hHeld ?_
      rotate_left
      · (intro w hSw; (try dsimp only at hSw); go_simp; try with_reducible rfl)
      try simp only [Act.put, List.setIfInBounds_toArray, List.set_cons_zero, List.set_cons_succ]
      refine held_take 7 ?_ rfl (by kernel_rfl) (by kernel_rfl) (by kernel_rfl) (fun _ _ _ h => h) (by rfl) ?_ hHeld ?_
      rotate_left
      · (intro w hSw; (try dsimp only at hSw); go_simp; try with_reducible rfl)
      try simp only [Act.put, List.setIfInBounds_toArray, List.set_cons_zero, List.set_cons_succ]
      refine held_take 8 ?_ rfl (by kernel_rfl) (by kernel_rfl) (by kernel_rfl) (fun _ _ _ h => h) (by rfl) ?_ hHeld ?_
      rotate_left
      · (intro w hSw; (try dsimp only at hSw); go_simp; try with_reducible rfl)
      try simp only [Act.put, List.setIfInBounds_toArray, List.set_cons_zero, List.set_cons_succ]
      refine held_take 9 ?_ rfl (by kernel_rfl) (by kernel_rfl) (by kernel_rfl) (fun _ _ _ h => h) (by rfl) ?_ hHeld ?_
      rotate_left
      · (intro w hSw; (try dsimp only at hSw); go_simp; try with_reducible rfl)
      try simp only [Act.put, List.setIfInBounds_toArray, List.set_cons_zero, List.set_cons_succ]
      refine held_take 10 ?_ rfl (by kernel_rfl) (by kernel_rfl) (by kernel_rfl) (fun _ _ _ h => h) (by rfl) ?_ hHeld ?_
      rotate_left
      · (intro w hSw; (try dsimp only at hSw); go_simp; try with_reducible rfl)
      try simp only [Act.put, List.setIfInBounds_toArray, List.set_cons_zero, List.set_cons_succ]
      refine held_take 11 ?_ rfl (by kernel_rfl) (by kernel_rfl) (by kernel_rfl) (fun _ _ _ h => h) (by rfl) ?_ hHeld ?_
      rotate_left
      · (intro w hSw; (try dsimp only at hSw); go_simp; try with_reducible rfl)
      try simp only [Act.put, List.setIfInBounds_toArray, List.set_cons_zero, List.set_cons_succ]
      refine held_take 12 ?_ rfl (by kernel_rfl) (by kernel_rfl) (by kernel_rfl) (fun _ _ _ h => h) (by rfl) ?_ hHeld ?_
      rotate_left
      · (intro w hSw; (try dsimp only at hSw); go_simp; try with_reducible rfl)
      try simp only [Act.put, List.setIfInBounds_toArray, List.set_cons_zero, List.set_cons_succ]
      refine held_take 13 ?_ rfl (by kernel_rfl) (by kernel_rfl) (by kernel_rfl) (fun _ _ _ h => h) (by rfl) ?_ hHeld ?_
      rotate_left
      · (intro w hSw; (try dsimp only at hSw); go_simp; try with_reducible rfl)
      try simp only [Act.put, List.setIfInBounds_toArray, List.set_cons_zero, List.set_cons_succ]
      refine held_take 14 ?_ rfl (by kernel_rfl) (by kernel_rfl) (by kernel_rfl) (fun _ _ _ h => h) (by rfl) ?_ hHeld ?_
      rotate_left
      · (intro w hSw; (try dsimp only at hSw); go_simp; try with_reducible rfl)
      try simp only [Act.put, List.setIfInBounds_toArray, List.set_cons_zero, List.set_cons_succ]
      refine held_take 15 ?_ rfl (by kernel_rfl) (by kernel_rfl) (by kernel_rfl) (fun _ _ _ h => h) (by rfl) ?_ hHeld ?_
      rotate_left
      · (intro w hSw; (try dsimp only at hSw); go_simp; try with_reducible rfl)
      try simp only [Act.put, List.setIfInBounds_toArray, List.set_cons_zero, List.set_cons_succ]
      refine held_take 16 ?_ rfl (by kernel_rfl) (by kernel_rfl) (by kernel_rfl) (fun _ _ _ h => h) (by rfl) ?_ hHeld ?_
      rotate_left
      · (intro w hSw; (try dsimp only at hSw); go_simp; try with_reducible rfl)
      try simp only [Act.put, List.setIfInBounds_toArray, List.set_cons_zero, List.set_cons_succ]
      refine held_take 17 ?_ rfl (by kernel_rfl) (by kernel_rfl) (by kernel_rfl) (fun _ _ _ h => h) (by rfl) ?_ hHeld ?_
      rotate_left
      · (intro w hSw; (try dsimp only at hSw); go_simp; try with_reducible rfl)
      try simp only [Act.put, List.setIfInBounds_toArray, List.set_cons_zero, List.set_cons_succ]
      refine held_take 18 ?_ rfl (by kernel_rfl) (by kernel_rfl) (by kernel_rfl) (fun _ _ _ h => h) (by rfl) ?_ hHeld ?_
      rotate_left
      · (intro w hSw; (try dsimp only at hSw); go_simp; try with_reducible rfl)
      try simp only [Act.put, List.setIfInBounds_toArray, List.set_cons_zero, List.set_cons_succ]
      refine held_take 19 ?_ rfl (by kernel_rfl) (by kernel_rfl) (by kernel_rfl) (fun _ _ _ h => h) (by rfl) ?_ hHeld ?_
      rotate_left
      · (intro w hSw; (try dsimp only at hSw); go_simp; try with_reducible rfl)
      try simp only [Act.put, List.setIfInBounds_toArray, List.set_cons_zero, List.set_cons_succ]
      refine held_take 20 ?_ rfl (by kernel_rfl) (by kernel_rfl) (by kernel_rfl) (fun _ _ _ h => h) (by rfl) ?_ hHeld ?_
      rotate_left
      · (intro w hSw; (try dsimp only at hSw); go_simp; try with_reducible rfl)
      try simp only [Act.put, List.setIfInBounds_toArray, List.set_cons_zero, List.set_cons_succ]
      refine held_take 21 ?_ rfl (by kernel_rfl) (by kernel_rfl) (by kernel_rfl) (fun _ _ _ h => h) (by rfl) ?_ hHeld ?_
      rotate_left
      · (intro w hSw; (try dsimp only at hSw); go_simp; try with_reducible rfl)
      try simp only [Act.put, List.setIfInBounds_toArray, List.set_cons_zero, List.set_cons_succ]
      refine held_take 22 ?_ rfl (by kernel_rfl) (by kernel_rfl) (by kernel_rfl) (fun _ _ _ h => h) (by rfl) ?_ hHeld ?_
      rotate_left
      · (intro w hSw; (try dsimp only at hSw); go_simp; try with_reducible rfl)
      try simp only [Act.put, List.setIfInBounds_toArray, List.set_cons_zero, List.set_cons_succ]
      refine held_take 23 ?_ rfl (by kernel_rfl) (by kernel_rfl) (by kernel_rfl) (fun _ _ _ h => h) (by rfl) ?_ hHeld ?_
      rotate_left
      · (intro w hSw; (try dsimp only at hSw); go_simp; try with_reducible rfl)
      try simp only [Act.put, List.setIfInBounds_toArray, List.set_cons_zero, List.set_cons_succ]
      refine held_take 24 ?_ rfl (by kernel_rfl) (by kernel_rfl) (by kernel_rfl) (fun _ _ _ h => h) (by rfl) ?_ hHeld ?_
      rotate_left
      · (intro w hSw; (try dsimp only at hSw); go_simp; try with_reducible rfl)
      try simp only [Act.put, List.setIfInBounds_toArray, List.set_cons_zero, List.set_cons_succ]
      refine held_take 25 ?_ rfl (by kernel_rfl) (by kernel_rfl) (by kernel_rfl) (fun _ _ _ h => h) (by rfl) ?_ hHeld ?_
      rotate_left
      · (intro w hSw; (try dsimp only at hSw); go_simp; try with_reducible rfl)
      try simp only [Act.put, List.setIfInBounds_toArray, List.set_cons_zero, List.set_cons_succ]
      refine held_take 26 ?_ rfl (by kernel_rfl) (by kernel_rfl) (by kernel_rfl) (fun _ _ _ h => h) (by rfl) ?_ hHeld ?_
      rotate_left
      · (intro w hSw; (try dsimp only at hSw); go_simp; try with_reducible rfl)
      try simp only [Act.put, List.setIfInBounds_toArray, List.set_cons_zero, List.set_cons_succ]
      refine held_take 27 ?_ rfl (by kernel_rfl) (by kernel_rfl) (by kernel_rfl) (fun _ _ _ h => h) (by rfl) ?_ hHeld ?_
      rotate_left
      · (intro w hSw; (try dsimp only at hSw); go_simp; try with_reducible rfl)
      try simp only [Act.put, List.setIfInBounds_toArray, List.set_cons_zero, List.set_cons_succ]
      refine held_skip 28 rfl (by kernel_rfl) (by kernel_rfl) (by kernel_rfl) (fun _ _ _ h => h) (by rfl) hHeld ?_
      try simp only [Act.put, List.setIfInBounds_toArray, List.set_cons_zero, List.set_cons_succ]
      refine held_skip 29 rfl (by kernel_rfl) (by kernel_rfl) (by kernel_rfl) (fun _ _ _ h => h) (by rfl) hHeld ?_
      try simp only [Act.put, List.setIfInBounds_toArray, List.set_cons_zero, List.set_cons_succ]
      refine held_skip 30 rfl (by kernel_rfl) (by kernel_rfl) (by kernel_rfl) (fun _ _ _ h => h) (by rfl) hHeld ?_
      try simp only [Act.put, List.setIfInBounds_toArray, List.set_cons_zero, List.set_cons_succ]
      refine held_skip 31 rfl (by kernel_rfl) (by kernel_rfl) (by kernel_rfl) (fun _ _ _ h => h) (by rfl) hHeld ?_
      try simp only [Act.put, List.setIfInBounds_toArray, List.set_cons_zero, List.set_cons_succ]
      refine held_skip 32 rfl (by kernel_rfl) (by kernel_rfl) (by kernel_rfl) (fun _ _ _ h => h) (by rfl) hHeld ?_
      try simp only [Act.put, List.setIfInBounds_toArray, List.set_cons_zero, List.set_cons_succ]
      refine held_skip 33 rfl (by kernel_rfl) (by kernel_rfl) (by kernel_rfl) (fun _ _ _ h => h) (by rfl) hHeld ?_
      try simp only [Act.put, List.setIfInBounds_toArray, List.set_cons_zero, List.set_cons_succ]
      refine held_skip 34 rfl (by kernel_rfl) (by kernel_rfl) (by kernel_rfl) (fun _ _ _ h => h) (by rfl) hHeld ?_
      try simp only [Act.put, List.setIfInBounds_toArray, List.set_cons_zero, List.set_cons_succ]
      refine held_skip 35 rfl (by kernel_rfl) (by kernel_rfl) (by kernel_rfl) (fun _ _ _ h => h) (by rfl) hHeld ?_
      try simp only [Act.put, List.setIfInBounds_toArray, List.set_cons_zero, List.set_cons_succ]
      refine held_take 36 ?_ rfl (by kernel_rfl) (by kernel_rfl) (by kernel_rfl) (fun _ _ _ h => h) (by rfl) ?_ hHeld ?_
      rotate_left
      · (intro w hSw; (try dsimp only at hSw); go_simp; try with_reducible rfl)
      try simp only [Act.put, List.setIfInBounds_toArray, List.set_cons_zero, List.set_cons_succ]
      refine held_take 37 ?_ rfl (by kernel_rfl) (by kernel_rfl) (by kernel_rfl) (fun _ _ _ h => h) (by rfl) ?_ hHeld ?_
      rotate_left
      · (intro w hSw; (try dsimp only at hSw); go_simp; try with_reducible rfl)
      try simp only [Act.put, List.setIfInBounds_toArray, List.set_cons_zero, List.set_cons_succ]
      refine wpAnyH_done (by kernel_rfl) ?_ _
      clear hHeld
      go_wp2_with fail
      go_meet
      exact ⟨rfl, 1, rfl⟩
  case rest =>
  obtain ⟨rfl, n, hwx⟩ := hcut
  obtain ⟨w2, rfl⟩ : ∃ w2, w2 = wc := ⟨_, rfl⟩
  have hbn := below_drewN (Below.refl (w.alloc (.cells #[.int .i64 p, .int .i64 q] 61)).heap.size (w.alloc (.cells #[.int .i64 p, .int .i64 q] 61))) n
  rw [← hwx] at hbn
  obtain ⟨hc1, hs1, hT1, hbw⟩ := hcs.out
  have hc2 := hc1.below hbn
  have hs2 := (Eff.of_below (S := fun _ => False) hbn).blk hs1 (fun h => h)
  have hT2 := (Eff.of_below (S := fun _ => False) hbn).blk hT1 (fun h => h)
  have hB2 : Below w.heap.size w w2 := hbw.trans (hbn.mono (by simp))
  have s3 : w2.cell? ⟨s, 3, none⟩ = some (.int .i64 z) := hs2.cell 3
  have hltT := hT2.lt
  clear hcs hc1 hs1 hT1 hbw hbn hwx hne h5 h6 s1 s2 hb1 hx1
  go_upto_if 72 with (fail)
  go_cut [5] (fun v wx => v = .int .i64 (saveS z : Nat) ∧ wx = w2)
  case first =>
    by_cases h0 : z = 0
    · have hz1 := hid (show ((saveS z : Nat) : Int) = 1 by unfold saveS; rw [if_pos h0]; rfl)
      have hzb : (z == 0) = true := by simpa using h0
      clear h0
      go_wp2_with fail
      go_meet
      exact ⟨by rw [hz1.out], rfl⟩
    · have hz1 := hid (show ((saveS z : Nat) : Int) = 0 by unfold saveS; rw [if_neg h0]; rfl)
      have hzb : (z == 0) = false := by simpa using h0
      clear h0
      go_wp2_with fail
      go_meet
      exact ⟨by rw [hz1.out], rfl⟩
  case rest =>
  obtain ⟨rfl, hwx⟩ := hcut
  obtain rfl : w2 = _ := hwx.symm
  have HK : Hid (saveS z ≤ 1) := by unfold saveS; rw [Hid]; split <;> omega
  have p0 : w2.cell? ⟨w.heap.size, 0, none⟩ = some (.int .i64 p) := hT2.cell 0
  have p1 : w2.cell? ⟨w.heap.size, 1, none⟩ = some (.int .i64 q) := hT2.cell 1
  have HW := hid (And.intro hc2 (And.intro hs2 (And.intro hT2 hB2)))
  have HRow := hid (And.intro (row_lit w2 0) ((Below.refl w2.heap.size w2).alloc (Nat.le_refl _) (.cells #[.int .u8 0] 5)))
  clear hc2 hs2 hT2 s3
  go_wp2_with fail
  go_loopw [6, 7] (fun v i wr => SixDown w2 w2.heap.size [0] p v i wr) (fun _ i _ => (intOf i + 1).toNat)
  case atStart => unfold SixDown; exact ⟨0, by omega, rfl, by simpa [b6k] using HRow.out.1, HRow.out.2⟩
  case round =>
    unfold SixDown at hrel
    obtain ⟨j, hj, rfl, hown, hbr⟩ := hrel
    have p0r : wr.cell? ⟨w.heap.size, 0, none⟩ = some (.int .i64 p) := (hbr.cell (p := ⟨w.heap.size, 0, none⟩) hltT).trans p0
    by_cases hlt6 : j < 6
    · have HO := hid (And.intro hown (And.intro (by rw [List.length_append, b6k_len]; simp; omega : ([0] ++ b6k p j).length ≤ 2000000) hbr.size))
      have HS := hid (b6k_succ p j)
      have hge : 0 ≤ (5 : Int) - j := by omega
      clear hown
      go_wp2_with (at_builtin; refine wpList_append_byte rfl _ _ rfl rfl HO.out.1 (b6At p j) wr.heap.size rfl rfl rfl HO.out.2.1 HO.out.2.2 ?_; intro v5 w5 hown5 hb5; rw [List.append_assoc, ← HS.out] at hown5)
      go_roundw
      case rel => unfold SixDown; exact ⟨j + 1, by omega, by go_num, hown5, hbr.trans hb5⟩
      case measure => simp [intOf]; omega
    · obtain rfl : j = 6 := by omega
      have HR2 := hid (And.intro hown hbr)
      clear hown p0r
      go_wp2_with fail
      go_loopw [6, 8] (fun v i wx => SixDown w2 w2.heap.size ([0] ++ b6 p) q v i wx) (fun _ i _ => (intOf i + 1).toNat)
      case atStart => unfold SixDown; exact ⟨0, by omega, rfl, by simpa [b6k, b6] using HR2.out.1, HR2.out.2⟩
      case round =>
        clear hbr HR2
        unfold SixDown at hrel
        obtain ⟨j, hj, rfl, hown, hbr⟩ := hrel
        have p1r := (hbr.cell (p := ⟨w.heap.size, 1, none⟩) hltT).trans p1
        by_cases hlt6 : j < 6
        · have HO := hid (And.intro hown (And.intro (by rw [List.length_append, b6k_len]; simp [b6, b6k_len]; omega : ([0] ++ b6 p ++ b6k q j).length ≤ 2000000) hbr.size))
          have HS := hid (b6k_succ q j)
          have hge : 0 ≤ (5 : Int) - j := by omega
          clear hown
          go_wp2_with (at_builtin; refine wpList_append_byte rfl _ _ rfl rfl HO.out.1 (b6At q j) _ rfl rfl rfl HO.out.2.1 HO.out.2.2 ?_; intro v5 w5 hown5 hb5; rw [List.append_assoc, ← HS.out] at hown5)
          go_roundw
          case rel =>
            refine ⟨_, _, _, _, _, _, _, _, _, _, _, _, _, _, _, _, ?_, rfl⟩
            unfold SixDown
            exact ⟨j + 1, by omega, by go_num, hown5, hbr.trans hb5⟩
          case measure => simp [intOf]; omega
        · obtain rfl : j = 6 := by omega
          have hlen13 : ([0] ++ b6 p ++ b6k q 6).length = 13 := slotB_len (p, q)
          have hrow := hown
          rw [hlen13] at hrow
          obtain ⟨A4, c4, rfl, _, _, hr4⟩ := Sl.row hrow
          have hr4 : Sl wr A4 ((slotB (p, q)).map (Value.int .u8)) := hr4
          obtain ⟨b4, o4, rfl, hbw4, _⟩ := hr4.at (by rw [List.length_map, slotB_len]; omega)
          have hb4lo : w2.heap.size ≤ b4 := (hrow.lt b4 rfl).1
          have hc5 := HW.out.1.below hbr
          have hs5 := (Eff.of_below (S := fun _ => False) hbr).blk HW.out.2.1 (fun h => h)
          have hT5 := (Eff.of_below (S := fun _ => False) hbr).blk HW.out.2.2.1 (fun h => h)
          have hB5 : Below w.heap.size w wr := HW.out.2.2.2.trans (hbr.mono HW.out.2.2.2.size)
          have hlw := HW.out.2.2.2.size
          have HQ := hid (And.intro hr4 (And.intro hT5 hB5))
          have hc5 : RefAt wr b g ⟨setL c.bs ((saveL (saveS z) (p, q)).take 0), 0, false, c.writes + (0 : Nat)⟩ := by
            obtain ⟨bs, f, d, ws⟩ := c
            obtain rfl : d = false := hd
            obtain rfl : f = 0 := hf
            simpa [setL] using hc5
          have hkl : saveS z * 13 + 13 ≤ c.bs.length := by have := HK.out; omega
          clear hown hrow hr4 hT5 hbr p1r p0 p1
          have HKK := HK.out
          generalize hsz : saveS z = k at *
          go_wp2_with fail
          go_loopw [9] (fun i wx => RSaveRel wr b g s c (saveL k (p, q)) ((x, y), z) i wx) (fun i _ => 13 - (intOf i).toNat)
          case atStart => unfold RSaveRel; exact ⟨0, by omega, rfl, hc5, hs5, Eff.refl _ _⟩
          case round =>
            clear hc5 hs5
            unfold RSaveRel at hrel
            obtain ⟨j, hj, rfl, hcj, hsj, hej⟩ := hrel
            have hp0 : wr.cell? ⟨s, 0, none⟩ = some (.pointer (some ⟨b, 0, none⟩)) := hsj.cell 0
            have hBj : IsB (setL c.bs ((saveL k (p, q)).take j)) := setL_b hok.2.2 (fun x hx => saveL_b _ _ x (List.mem_of_mem_take hx))
            have hLj : (setL c.bs ((saveL k (p, q)).take j)).length = c.bs.length := setL_len _ _
            by_cases hlt : j < 13
            · have hr := HQ.out.1.eff hej (fun a ha h => by cases ha; rcases h with h | h <;> (simp only at h; omega))
              obtain ⟨_, _, heq, _, hcx⟩ := hr.at (by rw [List.length_map, slotB_len]; omega)
              cases heq
              obtain ⟨v, hv⟩ : ∃ v, (slotB (p, q)).getD j 0 = v := ⟨_, rfl⟩
              have hcell : wr.cell? ⟨b4, o4 + j, none⟩ = some (.int .u8 v) := by
                rw [hcx j (by rw [List.length_map, slotB_len]; exact hlt), ← hv]
                simp [List.getD_eq_getElem?_getD, List.getElem?_eq_getElem (show j < (slotB (p, q)).length by rw [slotB_len]; exact hlt)]
              have htk := take_of_drop (saveL_drop k (p, q) hlt)
              rw [hv] at htk
              have hpu := refPut_up (k * 13 + j) v (_root_.Go.World.drew wr) hcj hBj (by rw [hLj]; omega) ⟨by omega, by omega⟩
              rw [show ((k * 13 + j : Nat) : Int) = 13 * (k : Int) + j from by omega] at hpu
              have HTK := hid htk
              have hp0d : (_root_.Go.World.drew wr).cell? ⟨s, 0, none⟩ = some (.pointer (some ⟨b, 0, none⟩)) := hp0
              have hcelld : (_root_.Go.World.drew wr).cell? ⟨b4, o4 + j, none⟩ = some (.int .u8 v) := hcell
              have hbs4 : ¬ (s = b ∨ s = g) := by omega
              have hb44 : ¬ (b4 = b ∨ b4 = g) := by omega
              have hsl2 : s < (_root_.Go.World.drew wr).heap.size := hsj.lt
              have hb4l : b4 < (_root_.Go.World.drew wr).heap.size := World.block_lt_of_cell? wr _ hcell
              have HH := hid (And.intro hsj hej)
              have hw13 : IntKind.i64.wrap (13 * (k : Int)) = 13 * (k : Int) := by rw [IntKind.wrap_i64]; omega
              have hw14 : IntKind.i64.wrap (13 * (k : Int) + j) = 13 * (k : Int) + j := by rw [IntKind.wrap_i64]; omega
              clear hcx hr hv htk hsj hej hcj hp0 hcell
              go_wp2_with fail
              refine wp_region_held_drew (S := fun w' => w'.cell? ⟨s, 0, none⟩ = some (.pointer (some ⟨b, 0, none⟩)) ∧ w'.cell? ⟨b4, o4 + j, none⟩ = some (.int .u8 v)) (by kernel_rfl) ?_ (fun hHeld => ?_)
              · (try dsimp only); (first | exact ⟨hp0d, hcelld⟩ | exact ⟨(he5.cell hsl2 hbs4).trans hp0d, (he5.cell hb4l hb44).trans hcelld⟩)
              refine held_take 0 ?_ rfl (by kernel_rfl) (by kernel_rfl) (by kernel_rfl) (fun _ _ _ h => h) (by rfl) ?_ hHeld ?_
              rotate_left
              · (intro w hSw; (try dsimp only at hSw); go_simp; try with_reducible rfl)
              try simp only [Act.put, List.setIfInBounds_toArray, List.set_cons_zero, List.set_cons_succ]
              refine held_take 1 ?_ rfl (by kernel_rfl) (by kernel_rfl) (by kernel_rfl) (fun _ _ _ h => h) (by rfl) ?_ hHeld ?_
              rotate_left
              · (intro w hSw; (try dsimp only at hSw); go_simp; try with_reducible rfl)
              try simp only [Act.put, List.setIfInBounds_toArray, List.set_cons_zero, List.set_cons_succ]
              refine held_take 2 ?_ rfl (by kernel_rfl) (by kernel_rfl) (by kernel_rfl) (fun _ _ _ h => h) (by rfl) ?_ hHeld ?_
              rotate_left
              · (intro w hSw; (try dsimp only at hSw); go_simp; try with_reducible rfl)
              try simp only [Act.put, List.setIfInBounds_toArray, List.set_cons_zero, List.set_cons_succ]
              refine held_take 3 ?_ rfl (by kernel_rfl) (by kernel_rfl) (by kernel_rfl) (fun _ _ _ h => h) (by rfl) ?_ hHeld ?_
              rotate_left
              · (intro w hSw; (try dsimp only at hSw); go_simp; try with_reducible rfl)
              try simp only [Act.put, List.setIfInBounds_toArray, List.set_cons_zero, List.set_cons_succ]
              refine held_take 4 ?_ rfl (by kernel_rfl) (by kernel_rfl) (by kernel_rfl) (fun _ _ _ h => h) (by rfl) ?_ hHeld ?_
              rotate_left
              · (intro w hSw; (try dsimp only at hSw); go_simp; try with_reducible rfl)
              try simp only [Act.put, List.setIfInBounds_toArray, List.set_cons_zero, List.set_cons_succ]
              refine held_take 5 ?_ rfl (by kernel_rfl) (by kernel_rfl) (by kernel_rfl) (fun _ _ _ h => h) (by rfl) ?_ hHeld ?_
              rotate_left
              · (intro w hSw; (try dsimp only at hSw); go_simp; try with_reducible rfl)
              try simp only [Act.put, List.setIfInBounds_toArray, List.set_cons_zero, List.set_cons_succ]
              refine held_take 6 ?_ rfl (by kernel_rfl) (by kernel_rfl) (by kernel_rfl) (fun _ _ _ h => h) (by rfl) ?_ hHeld ?_
              rotate_left
              · (intro w hSw; (try dsimp only at hSw); go_simp; try with_reducible rfl)
              try simp only [Act.put, List.setIfInBounds_toArray, List.set_cons_zero, List.set_cons_succ]
              refine held_take 7 ?_ rfl (by kernel_rfl) (by kernel_rfl) (by kernel_rfl) (fun _ _ _ h => h) (by rfl) ?_ hHeld ?_
              rotate_left
              · (intro w hSw; (try dsimp only at hSw); go_simp; try with_reducible rfl)
              try simp only [Act.put, List.setIfInBounds_toArray, List.set_cons_zero, List.set_cons_succ]
              refine held_take 8 ?_ rfl (by kernel_rfl) (by kernel_rfl) (by kernel_rfl) (fun _ _ _ h => h) (by rfl) ?_ hHeld ?_
              rotate_left
              · (intro w hSw; (try dsimp only at hSw); go_simp; try with_reducible rfl)
              try simp only [Act.put, List.setIfInBounds_toArray, List.set_cons_zero, List.set_cons_succ]
              refine held_take 9 ?_ rfl (by kernel_rfl) (by kernel_rfl) (by kernel_rfl) (fun _ _ _ h => h) (by rfl) ?_ hHeld ?_
              rotate_left
              · (intro w hSw; (try dsimp only at hSw); go_simp; try with_reducible rfl)
              try simp only [Act.put, List.setIfInBounds_toArray, List.set_cons_zero, List.set_cons_succ]
              refine held_take 10 ?_ rfl (by kernel_rfl) (by kernel_rfl) (by kernel_rfl) (fun _ _ _ h => h) (by rfl) ?_ hHeld ?_
              rotate_left
              · (intro w hSw; (try dsimp only at hSw); go_simp; try with_reducible rfl)
              try simp only [Act.put, List.setIfInBounds_toArray, List.set_cons_zero, List.set_cons_succ]
              refine held_take 11 ?_ rfl (by kernel_rfl) (by kernel_rfl) (by kernel_rfl) (fun _ _ _ h => h) (by rfl) ?_ hHeld ?_
              rotate_left
              · (intro w hSw; (try dsimp only at hSw); go_simp; try with_reducible rfl)
              try simp only [Act.put, List.setIfInBounds_toArray, List.set_cons_zero, List.set_cons_succ]
              refine held_one 12 rfl (by kernel_rfl) (by rfl) (fun K hK => ?_)
              go_simp
              refine hpu.mono ?_
              rintro e w5 ⟨rfl, hc5, he5⟩
              refine hK.out _ _ ?_ (fun hHeld2 => ?_)
              · (try dsimp only); (first | exact ⟨hp0d, hcelld⟩ | exact ⟨(he5.cell hsl2 hbs4).trans hp0d, (he5.cell hb4l hb44).trans hcelld⟩)
              clear hK K hHeld
              have hHeld := hHeld2
              clear hHeld2
              try simp only [Act.put, List.setIfInBounds_toArray, List.set_cons_zero, List.set_cons_succ]
              refine held_take 13 ?_ rfl (by kernel_rfl) (by kernel_rfl) (by kernel_rfl) (fun _ _ _ h => h) (by rfl) ?_ hHeld ?_
              rotate_left
              · (intro w hSw; (try dsimp only at hSw); go_simp; try with_reducible rfl)
              try simp only [Act.put, List.setIfInBounds_toArray, List.set_cons_zero, List.set_cons_succ]
              refine wpAnyH_done (by kernel_rfl) ?_ _
              clear hHeld
              have hs5 := he5.blk HH.out.1 (fun h => by rcases h with h | h <;> omega)
              have he6 := (HH.out.2.step (Eff.of_below (S := At2 b g) ((Below.refl wr.heap.size wr).drew)) (fun _ _ h => h)).trans he5
              go_wp2_with fail
              go_roundw
              case rel =>
                unfold RSaveRel
                refine ⟨j + 1, by omega, by go_num, ?_, hs5, he6⟩
                rw [HTK.out, setL_append]
                have e1 : c.writes + ((j + 1 : Nat) : Int) = c.writes + (j : Int) + 1 := by omega
                rw [e1]
                exact hc5
              case measure => simp [intOf]; omega
            · obtain rfl : j = 13 := by omega
              have hpu := refPut_up (k * 13) 1 wr hcj hBj (by rw [hLj]; omega) ⟨by omega, by omega⟩
              rw [show ((k * 13 : Nat) : Int) = 13 * (k : Int) from by omega] at hpu
              have hTr := hej.blk HQ.out.2.1 (fun h => by rcases h with h | h <;> omega)
              have HH := hid (And.intro hsj (And.intro hej hTr))
              have htk := take_of_drop (saveL_end k (p, q))
              rw [List.take_of_length_le (by rw [saveL_len]; omega)] at htk
              have HTK := hid htk
              clear htk hsj hej hTr hcj
              go_wp2_with fail
              refine hpu.mono ?_
              rintro e w5 ⟨rfl, hc5, he5⟩
              have hT5 := he5.blk HH.out.2.2 (fun h => by rcases h with h | h <;> omega)
              have hs5 := he5.blk HH.out.1 (fun h => by rcases h with h | h <;> omega)
              have t0 : w5.cell? ⟨w.heap.size, 0, none⟩ = some (.int .i64 p) := hT5.cell 0
              have t1 : w5.cell? ⟨w.heap.size, 1, none⟩ = some (.int .i64 q) := hT5.cell 1
              have f0 : w5.cell? ⟨s, 0, none⟩ = some (.pointer (some ⟨b, 0, none⟩)) := hs5.cell 0
              have f1 : w5.cell? ⟨s, 1, none⟩ = some (.int .i64 x) := hs5.cell 1
              have f2 : w5.cell? ⟨s, 2, none⟩ = some (.int .i64 y) := hs5.cell 2
              have f3 : w5.cell? ⟨s, 3, none⟩ = some (.int .i64 z) := hs5.cell 3
              have hff : ∀ o, w5.frozen? ⟨s, o, none⟩ = false := hs5.frozen
              have hs6 := ((hs5.set 1 (.int .i64 p)).set 2 (.int .i64 q)).set 3 (.int .i64 k)
              have he6 : Eff (At3 b g s) w w5 := (Eff.of_below HQ.out.2.2).step (HH.out.2.1.trans he5) (fun i _ h => by rcases h with h | h <;> simp [At3, h])
              have he7 := ((he6.setCell (p := ⟨s, 1, none⟩) (fun _ => .inr (.inr rfl)) (.int .i64 p)).setCell (p := ⟨s, 2, none⟩) (fun _ => .inr (.inr rfl)) (.int .i64 q)).setCell (p := ⟨s, 3, none⟩) (fun _ => .inr (.inr rfl)) (.int .i64 k)
              have hc6 := hc5.eff ((((Eff.one s w5).set 1 (.int .i64 p)).set 2 (.int .i64 q)).set 3 (.int .i64 k)) (fun h => hsb h.symm) (fun h => hsg h.symm)
              have hkept : (c.kept z (p, q)) = ⟨(setL c.bs ((saveL k (p, q)).take 13)).set (k * 13) 1, 0, false, c.writes + (13 : Nat) + 1⟩ := by
                rw [Cl.kept, hsz, HTK.out, setL_append]
                simp only [Cl.mk.injEq, true_and]
                exact ⟨rfl, by omega⟩
              have HF := hid (And.intro hc6 (And.intro hs6 (And.intro he7 hkept)))
              clear hT5 hs5 hs6 he6 he7 hc6 hc5 he5 hkept
              go_wp2_with fail
              go_ret
              refine ⟨rfl, ?_, HF.out.2.1, HF.out.2.2.1⟩
              rw [HF.out.2.2.2]
              exact HF.out.1
end Go.Proofs.YtmfdpjijpbgjbaaDoor
