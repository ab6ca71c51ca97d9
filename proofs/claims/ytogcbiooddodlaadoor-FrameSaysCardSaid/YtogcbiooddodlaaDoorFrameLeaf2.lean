/- Frames: a token's leaves, more: a number that is no car's, calls compared. -/
import Derived.Test.YtogcbiooddodlaaDoorFrameLeaf
import Derived.Test.YtogcbiooddodlaaDoorRegions2
namespace Go.Proofs.YtogcbiooddodlaaDoor
open Go.RowKit
set_option linter.unusedSimpArgs false

def GivesNone (w : World) (xs : List Int) (e : Ending) (w' : World) : Prop := ∃ r : Int, e = .returned (.int .i64 r) ∧ w = w' ∧ (0 ≤ r ↔ ¬ ∀ n ∈ xs, isCar n = true)
def CarRel (w : World) (xs : List Int) (i : Value) (wr : World) : Prop := w = wr ∧ ∃ k : Nat, k ≤ xs.length ∧ i = .int .i64 k ∧ ∀ n ∈ xs.take k, isCar n = true
theorem car_next {xs : List Int} {k : Nat} (h : k < xs.length) (h1 : ∀ n ∈ xs.take k, isCar n = true) (h2 : isCar (xs.getD k 0) = true) : ∀ n ∈ xs.take (k + 1), isCar n = true := by
  rw [List.take_succ_eq_append_getElem h]
  intro n hn
  rcases List.mem_append.1 hn with h3 | h3
  · exact h1 n h3
  · rw [List.mem_singleton] at h3
    rw [h3, ← getD_get h]
    exact h2
set_option maxHeartbeats 800000 in
theorem indexFunc_any (A : Option Addr) (c : Nat) (xs : List Int) (w : World) (hx : Sl w A (xs.map (Value.int .i64))) (hl : xs.length ≤ 9223372036854775807) :
    Calls Tryd.prog 89 #[.slice A xs.length c, Value.func (.func 71) #[] #[]] w (GivesNone w xs) := by
  go_enter Tryd.func89, Tryd.ntmps89
  go_wp2
  go_loopw [8] (fun i wr => CarRel w xs i wr) (fun i _ => xs.length - (intOf i).toNat)
  case atStart => exact ⟨rfl, 0, Nat.zero_le _, rfl, by simp⟩
  case round =>
    obtain ⟨rfl, k, hk, rfl, hno⟩ := hrel
    by_cases hlt : k < xs.length
    · obtain ⟨b, o, rfl, _, hc⟩ := hx.at (by simp; omega)
      have hcell : w.cell? ⟨b, o + k, none⟩ = some (.int .i64 (xs.getD k 0)) := by rw [hc k (by simpa using hlt), getD_int hlt]
      have hmem := mem_getD hlt
      have hnext := car_next hlt hno
      have hlt' : (k : Int) < xs.length := by omega
      obtain ⟨x, ex⟩ : ∃ x, xs.getD k 0 = x := ⟨_, rfl⟩
      rw [ex] at hcell hmem hnext
      clear hc ex
      have hcl := notCar_any x w
      cases he : isCar x
      · have HM : Hid (¬ ∀ n ∈ xs, isCar n = true) := by
          intro h
          rw [h x hmem] at he
          cases he
        rw [he] at hcl
        clear hmem hnext hno he
        go_wp2_with fail
        refine hcl.mono ?_
        rintro e w' ⟨rfl, rfl⟩
        go_wp2_with fail
        go_ret
        exact ⟨_, rfl, rfl, ⟨fun _ => HM.out, fun _ => by omega⟩⟩
      · have HN := hid (hnext he)
        rw [he] at hcl
        clear hmem hnext hno he
        go_wp2_with fail
        refine hcl.mono ?_
        rintro e w' ⟨rfl, rfl⟩
        go_wp2_with fail
        go_roundw
        case rel => exact ⟨rfl, k + 1, by omega, by go_num, HN.out⟩
        case measure => simp [intOf]; omega
    · have hk' : k = xs.length := by omega
      have HM : Hid (∀ n ∈ xs, isCar n = true) := by
        rw [hk', List.take_length] at hno
        exact hno
      clear hno hk'
      go_wp2
      go_ret
      exact ⟨-1, rfl, rfl, ⟨fun h => absurd h (by decide), fun h => absurd HM.out h⟩⟩
/-- Is there a number that is no car's? -/
def noCar (xs : List Int) : Bool := xs.any fun n => !isCar n
theorem noCar_iff (xs : List Int) : noCar xs = true ↔ ¬ ∀ n ∈ xs, isCar n = true := by
  simp [noCar]
set_option maxHeartbeats 800000 in
theorem containsFunc_any (A : Option Addr) (c : Nat) (xs : List Int) (w : World) (hx : Sl w A (xs.map (Value.int .i64))) (hl : xs.length ≤ 9223372036854775807) :
    Calls Tryd.prog 70 #[.slice A xs.length c, Value.func (.func 71) #[] #[]] w fun e w' => e = .returned (.bool (noCar xs)) ∧ w = w' := by
  go_enter Tryd.func70, Tryd.ntmps70
  go_wp2_with fail
  refine (indexFunc_any A c xs _ hx hl).mono ?_
  rintro e w' ⟨r, rfl, rfl, hr⟩
  have HR := hid (hr.trans (noCar_iff xs).symm)
  clear hr
  go_wp2_with fail
  go_ret
  exact ⟨ret_bool (Bool.eq_iff_iff.2 (by rw [decide_eq_true_eq]; exact HR.out)), rfl⟩
/-- The first that is not zero. -/
def orI (x y : Int) : Int := if x = 0 then y else x
def OrRel (w : World) (x y : Int) (i : Value) (wr : World) : Prop := w = wr ∧ ∃ k : Nat, k ≤ 2 ∧ i = .int .i64 k ∧ (1 ≤ k → x = 0) ∧ (2 ≤ k → y = 0)
set_option maxHeartbeats 800000 in
theorem or_any (b o c : Nat) (x y : Int) (w : World) (h0 : w.cell? ⟨b, o, none⟩ = some (.int .i64 x)) (h1 : w.cell? ⟨b, o + 1, none⟩ = some (.int .i64 y)) :
    Calls Tryd.prog 95 #[.slice (some ⟨b, o, none⟩) 2 c] w fun e w' => e = .returned (.int .i64 (orI x y)) ∧ w = w' := by
  go_enter Tryd.func95, Tryd.ntmps95
  go_wp2_with fail
  go_loopw [8] (fun i wr => OrRel w x y i wr) (fun i _ => 2 - (intOf i).toNat)
  case atStart => exact ⟨rfl, 0, by omega, rfl, fun h => by omega, fun h => by omega⟩
  case round =>
    obtain ⟨rfl, k, hk, rfl, hx, hy⟩ := hrel
    have hk3 : k = 0 ∨ k = 1 ∨ k = 2 := by omega
    rcases hk3 with rfl | rfl | rfl
    · by_cases hx0 : x = 0
      · subst hx0
        clear hx hy
        go_wp2_with fail
        go_roundw
        case rel => exact ⟨rfl, 1, by omega, rfl, fun _ => rfl, fun h => by omega⟩
        case measure => simp [intOf]
      · have hxb : (x != 0) = true := by simpa using hx0
        have HO := hid (show orI x y = x from if_neg hx0)
        clear hx hy hx0
        go_wp2_with fail
        go_ret
        exact ⟨by rw [HO.out]; rfl, rfl⟩
    · have hx0 := hx (by omega)
      subst hx0
      have HO : Hid (orI 0 y = y) := if_pos rfl
      by_cases hy0 : y = 0
      · subst hy0
        clear hx hy
        go_wp2_with fail
        go_roundw
        case rel => exact ⟨rfl, 2, by omega, rfl, fun _ => rfl, fun _ => rfl⟩
        case measure => simp [intOf]
      · have hyb : (y != 0) = true := by simpa using hy0
        clear hx hy hy0
        go_wp2_with fail
        go_ret
        exact ⟨by rw [HO.out]; rfl, rfl⟩
    · have hx0 := hx (by omega)
      have hy0 := hy (by omega)
      subst hx0 hy0
      clear hx hy
      go_wp2_with fail
      go_ret
      exact ⟨rfl, rfl⟩
/-- One call held against another one. -/
def cmpC (f d f' d' : Int) : Int := orI (cmpI f f') (cmpI d d')
def GivesCmp (w : World) (n : Int) (e : Ending) (w' : World) : Prop := e = .returned (.int .i64 n) ∧ Below w.heap.size w w'
set_option maxRecDepth 100000 in
set_option maxHeartbeats 400000 in
theorem compare_any (f d f' d' : Int) (w : World) : Calls Tryd.prog 91 #[.agg #[.int .i64 f, .int .i64 d], .agg #[.int .i64 f', .int .i64 d']] w (GivesCmp w (cmpC f d f' d')) := by
  have hb1 : Below w.heap.size w (_root_.Go.World.drew ((w.alloc (.cells #[.int .i64 f, .int .i64 d] 55)).alloc (.cells #[.int .i64 f', .int .i64 d'] 55))) := (((Below.refl _ _).alloc (Nat.le_refl _) _).alloc (by simp) _).drew
  have hx1 := (Blk.new w [.int .i64 f, .int .i64 d] 55).alloc (.cells #[.int .i64 f', .int .i64 d'] 55)
  have hy1 := Blk.new (w.alloc (.cells #[.int .i64 f, .int .i64 d] 55)) [.int .i64 f', .int .i64 d'] 55
  rw [show (w.alloc (.cells #[.int .i64 f, .int .i64 d] 55)).heap.size = w.heap.size + 1 from by simp] at hy1
  have a0 : (_root_.Go.World.drew ((w.alloc (.cells #[.int .i64 f, .int .i64 d] 55)).alloc (.cells #[.int .i64 f', .int .i64 d'] 55))).cell? ⟨w.heap.size, 0, none⟩ = some (.int .i64 f) := hx1.cell 0
  have a1 : (_root_.Go.World.drew ((w.alloc (.cells #[.int .i64 f, .int .i64 d] 55)).alloc (.cells #[.int .i64 f', .int .i64 d'] 55))).cell? ⟨w.heap.size, 1, none⟩ = some (.int .i64 d) := hx1.cell 1
  have c0 : (_root_.Go.World.drew ((w.alloc (.cells #[.int .i64 f, .int .i64 d] 55)).alloc (.cells #[.int .i64 f', .int .i64 d'] 55))).cell? ⟨w.heap.size + 1, 0, none⟩ = some (.int .i64 f') := hy1.cell 0
  have c1 : (_root_.Go.World.drew ((w.alloc (.cells #[.int .i64 f, .int .i64 d] 55)).alloc (.cells #[.int .i64 f', .int .i64 d'] 55))).cell? ⟨w.heap.size + 1, 1, none⟩ = some (.int .i64 d') := hy1.cell 1
  have l0 : w.heap.size < (_root_.Go.World.drew ((w.alloc (.cells #[.int .i64 f, .int .i64 d] 55)).alloc (.cells #[.int .i64 f', .int .i64 d'] 55))).heap.size := hx1.lt
  have l1 : w.heap.size + 1 < (_root_.Go.World.drew ((w.alloc (.cells #[.int .i64 f, .int .i64 d] 55)).alloc (.cells #[.int .i64 f', .int .i64 d'] 55))).heap.size := hy1.lt
  go_enter Tryd.func91, Tryd.ntmps91
  go_wp2_with fail
  generalize (w.alloc (.cells #[.int .i64 f, .int .i64 d] 55)).alloc (.cells #[.int .i64 f', .int .i64 d'] 55) = v at *
  clear hx1 hy1
  have hZ := Blk.new (_root_.Go.World.drew v) [.int .i64 (cmpI f f'), .int .i64 (cmpI d d')] 3
  have hor := or_any (_root_.Go.World.drew v).heap.size 0 2 (cmpI f f') (cmpI d d') _ (hZ.cell 0) (hZ.cell 1)
  have hbz := hb1.alloc hb1.size (.cells #[.int .i64 (cmpI f f'), .int .i64 (cmpI d d')] 3)
  refine wp_region_held_drew (S := fun w' => w'.cell? ⟨w.heap.size, 0, none⟩ = some (.int .i64 f) ∧ w'.cell? ⟨w.heap.size, 1, none⟩ = some (.int .i64 d) ∧ w'.cell? ⟨w.heap.size + 1, 0, none⟩ = some (.int .i64 f') ∧ w'.cell? ⟨w.heap.size + 1, 1, none⟩ = some (.int .i64 d')) (by kernel_rfl) ?_ (fun hHeld => ?_)
  · (try dsimp only); (first | exact ⟨a0, a1, c0, c1⟩ | exact ⟨(World.cell?_alloc_lt _ _ _ l0).trans a0, (World.cell?_alloc_lt _ _ _ l0).trans a1, (World.cell?_alloc_lt _ _ _ l1).trans c0, (World.cell?_alloc_lt _ _ _ l1).trans c1⟩)
  refine held_take 0 ?_ rfl (by kernel_rfl) (by kernel_rfl) (by kernel_rfl) (fun _ _ _ h => h) (by rfl) ?_ hHeld ?_
  rotate_left
  · (intro w hSw; (try dsimp only at hSw); go_simp; try with_reducible rfl)
  try simp only [Act.put, List.setIfInBounds_toArray, List.set_cons_zero, List.set_cons_succ]
  refine held_take 1 ?_ rfl (by kernel_rfl) (by kernel_rfl) (by kernel_rfl) (fun _ _ _ h => h) (by rfl) ?_ hHeld ?_
  rotate_left
  · (intro w hSw; (try dsimp only at hSw); go_simp; try with_reducible rfl)
  try simp only [Act.put, List.setIfInBounds_toArray, List.set_cons_zero, List.set_cons_succ]
  refine held_take 2 ?_ rfl (by kernel_rfl) (by kernel_rfl) (by kernel_rfl) (fun _ _ _ h => h) (by rfl) ?_ hHeld ?_
  rotate_left
  · (intro w hSw; (try dsimp only at hSw); go_simp; try with_reducible rfl)
  try simp only [Act.put, List.setIfInBounds_toArray, List.set_cons_zero, List.set_cons_succ]
  refine held_take 3 ?_ rfl (by kernel_rfl) (by kernel_rfl) (by kernel_rfl) (fun _ _ _ h => h) (by rfl) ?_ hHeld ?_
  rotate_left
  · (intro w hSw; (try dsimp only at hSw); go_simp; try with_reducible rfl)
  try simp only [Act.put, List.setIfInBounds_toArray, List.set_cons_zero, List.set_cons_succ]
  refine held_take 5 ?_ rfl (by kernel_rfl) (by kernel_rfl) (by kernel_rfl) (fun _ _ _ h => h) (by rfl) ?_ hHeld ?_
  rotate_left
  · (intro w hSw; (try dsimp only at hSw); go_simp; try with_reducible rfl)
  try simp only [Act.put, List.setIfInBounds_toArray, List.set_cons_zero, List.set_cons_succ]
  refine held_take 6 ?_ rfl (by kernel_rfl) (by kernel_rfl) (by kernel_rfl) (fun _ _ _ h => h) (by rfl) ?_ hHeld ?_
  rotate_left
  · (intro w hSw; (try dsimp only at hSw); go_simp; try with_reducible rfl)
  try simp only [Act.put, List.setIfInBounds_toArray, List.set_cons_zero, List.set_cons_succ]
  refine held_take 7 ?_ rfl (by kernel_rfl) (by kernel_rfl) (by kernel_rfl) (fun _ _ _ h => h) (by rfl) ?_ hHeld ?_
  rotate_left
  · (intro w hSw; (try dsimp only at hSw); go_simp; try with_reducible rfl)
  try simp only [Act.put, List.setIfInBounds_toArray, List.set_cons_zero, List.set_cons_succ]
  refine held_take 8 ?_ rfl (by kernel_rfl) (by kernel_rfl) (by kernel_rfl) (fun _ _ _ h => h) (by rfl) ?_ hHeld ?_
  rotate_left
  · (intro w hSw; (try dsimp only at hSw); go_simp; try with_reducible rfl)
  try simp only [Act.put, List.setIfInBounds_toArray, List.set_cons_zero, List.set_cons_succ]
  refine held_one 4 rfl (by kernel_rfl) (by rfl) (fun K hK => ?_)
  go_simp
  refine (cmp_any f f' _).mono ?_
  rintro e w' ⟨rfl, rfl⟩
  refine hK.out _ _ ?_ (fun hHeld2 => ?_)
  · (try dsimp only); (first | exact ⟨a0, a1, c0, c1⟩ | exact ⟨(World.cell?_alloc_lt _ _ _ l0).trans a0, (World.cell?_alloc_lt _ _ _ l0).trans a1, (World.cell?_alloc_lt _ _ _ l1).trans c0, (World.cell?_alloc_lt _ _ _ l1).trans c1⟩)
  clear hK K hHeld
  have hHeld := hHeld2
  clear hHeld2
  try simp only [Act.put, List.setIfInBounds_toArray, List.set_cons_zero, List.set_cons_succ]
  refine held_one 9 rfl (by kernel_rfl) (by rfl) (fun K hK => ?_)
  go_simp
  refine (cmp_any d d' _).mono ?_
  rintro e w' ⟨rfl, rfl⟩
  refine hK.out _ _ ?_ (fun hHeld2 => ?_)
  · (try dsimp only); (first | exact ⟨a0, a1, c0, c1⟩ | exact ⟨(World.cell?_alloc_lt _ _ _ l0).trans a0, (World.cell?_alloc_lt _ _ _ l0).trans a1, (World.cell?_alloc_lt _ _ _ l1).trans c0, (World.cell?_alloc_lt _ _ _ l1).trans c1⟩)
  clear hK K hHeld
  have hHeld := hHeld2
  clear hHeld2
  try simp only [Act.put, List.setIfInBounds_toArray, List.set_cons_zero, List.set_cons_succ]
  refine held_one 10 rfl (by kernel_rfl) (by rfl) (fun K hK => ?_)
  go_simp
  have h00 := l0
  refine hK.out _ _ ?_ (fun hHeld2 => ?_)
  · (try dsimp only); (first | exact ⟨a0, a1, c0, c1⟩ | exact ⟨(World.cell?_alloc_lt _ _ _ l0).trans a0, (World.cell?_alloc_lt _ _ _ l0).trans a1, (World.cell?_alloc_lt _ _ _ l1).trans c0, (World.cell?_alloc_lt _ _ _ l1).trans c1⟩)
  clear hK K hHeld
  have hHeld := hHeld2
  clear hHeld2
  try simp only [Act.put, List.setIfInBounds_toArray, List.set_cons_zero, List.set_cons_succ]
  refine held_one 11 rfl (by kernel_rfl) (by rfl) (fun K hK => ?_)
  go_simp
  refine hor.mono ?_
  rintro e w' ⟨rfl, rfl⟩
  refine hK.out _ _ ?_ (fun hHeld2 => ?_)
  · (try dsimp only); (first | exact ⟨a0, a1, c0, c1⟩ | exact ⟨(World.cell?_alloc_lt _ _ _ l0).trans a0, (World.cell?_alloc_lt _ _ _ l0).trans a1, (World.cell?_alloc_lt _ _ _ l1).trans c0, (World.cell?_alloc_lt _ _ _ l1).trans c1⟩)
  clear hK K hHeld
  have hHeld := hHeld2
  clear hHeld2
  try simp only [Act.put, List.setIfInBounds_toArray, List.set_cons_zero, List.set_cons_succ]
  refine held_take 12 ?_ rfl (by kernel_rfl) (by kernel_rfl) (by kernel_rfl) (fun _ _ _ h => h) (by rfl) ?_ hHeld ?_
  rotate_left
  · (intro w hSw; (try dsimp only at hSw); go_simp; try with_reducible rfl)
  try simp only [Act.put, List.setIfInBounds_toArray, List.set_cons_zero, List.set_cons_succ]
  refine wpAnyH_done (by kernel_rfl) ?_ _
  clear hHeld
  go_wp2_with fail
  go_ret
  exact ⟨rfl, hbz⟩
end Go.Proofs.YtogcbiooddodlaaDoor
