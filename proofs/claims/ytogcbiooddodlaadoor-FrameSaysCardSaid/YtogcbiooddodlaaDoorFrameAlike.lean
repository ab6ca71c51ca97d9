/- Frames: whether two are the same; copies (several texts in one). -/
import Derived.Test.YtogcbiooddodlaaDoorFrameOpen
namespace Go.Proofs.YtogcbiooddodlaaDoor
open Go.RowKit
set_option linter.unusedSimpArgs false


theorem takeS {α : Type} {xs ys : List α} {k : Nat} {x y : α} (hx : xs[k]? = some x) (hy : ys[k]? = some y) (h : xs.take k = ys.take k) (e : x = y) : xs.take (k + 1) = ys.take (k + 1) := by
  rw [List.take_add_one, List.take_add_one, h, hx, hy, e]
theorem notS {α : Type} [DecidableEq α] {xs ys : List α} {k : Nat} {x y : α} (hx : xs[k]? = some x) (hy : ys[k]? = some y) (e : x ≠ y) : decide (xs = ys) = false := by
  rw [decide_eq_false_iff_not]
  rintro rfl
  exact e (Option.some.inj (hx.symm.trans hy))
def EqRel {α : Type} (W : World) (xs ys : List α) (i : Value) (w : World) : Prop := Below W.heap.size W w ∧ ∃ k : Nat, k ≤ xs.length ∧ i = .int .i64 k ∧ xs.take k = ys.take k
set_option maxHeartbeats 800000 in
theorem sameBid_any (a b c d : Int) (w : World) : Calls Tryd.prog 101 #[.agg #[.int .i64 a, .int .i64 b], .agg #[.int .i64 c, .int .i64 d]] w (SaysB w (decide (((a, b) : Int × Int) = (c, d)))) := by
  have HE : Hid (decide (((a, b) : Int × Int) = (c, d)) = (a == c && b == d)) := by rw [Hid, Bool.eq_iff_iff]; simp
  rw [HE.out]
  clear HE
  go_enter Tryd.func101, Tryd.ntmps101
  go_wp2
  all_goals (go_ret; exact ⟨ret_bool (by simp_all), ((Below.refl _ _).alloc (Nat.le_refl _) _).alloc (by simp) _⟩)
set_option maxHeartbeats 1600000 in
theorem equalInts_any (A B : Option Addr) (c d : Nat) (xs ys : List (Int)) (w : World) (hx : Sl w A (xs.map (Value.int .i64))) (hy : Sl w B (ys.map (Value.int .i64))) (hxl : xs.length ≤ maxLen) (hyl : ys.length ≤ maxLen) :
    Calls Tryd.prog 76 #[.slice A xs.length c, .slice B ys.length d] w (SaysB w (decide (xs = ys))) := by
  unfold maxLen at hxl hyl
  by_cases hlen : xs.length = ys.length
  · have hb : (((xs.length : Int) != (ys.length : Int))) = false := by simp [hlen]
    have HLEN := hid hlen
    clear hlen
    go_enter Tryd.func76, Tryd.ntmps76
    go_wp2
    go_loopw [13] (fun i wr => EqRel w xs ys i wr) (fun i _ => xs.length - (intOf i).toNat)
    case atStart => exact ⟨Below.refl _ _, 0, Nat.zero_le _, rfl, by simp⟩
    case round =>
      obtain ⟨hbr, k, hk, rfl, htk⟩ := hrel
      by_cases hlt : k < xs.length
      · have hlt' : k < ys.length := by rw [← HLEN.out]; exact hlt
        obtain ⟨b1, o1, rfl, hw1, hc1⟩ := hx.at (by rw [List.length_map]; omega)
        obtain ⟨b2, o2, rfl, hw2, hc2⟩ := hy.at (by rw [List.length_map]; omega)
        obtain ⟨x, ex⟩ : ∃ x, xs[k]? = some x := ⟨xs[k], List.getElem?_eq_getElem hlt⟩
        obtain ⟨y, ey⟩ : ∃ y, ys[k]? = some y := ⟨ys[k], List.getElem?_eq_getElem hlt'⟩
        have d1 : wr.cell? ⟨b1, o1 + k, none⟩ = some (.int .i64 x) := (hbr.cell (p := ⟨b1, o1 + k, none⟩) hw1).trans ((hc1 k (by rw [List.length_map]; omega)).trans (by rw [List.getElem?_map, ex]; rfl))
        have d2 : wr.cell? ⟨b2, o2 + k, none⟩ = some (.int .i64 y) := (hbr.cell (p := ⟨b2, o2 + k, none⟩) hw2).trans ((hc2 k (by rw [List.length_map]; omega)).trans (by rw [List.getElem?_map, ey]; rfl))
        have hki : (k : Int) < (xs.length : Int) := by omega
        have hki' : (k : Int) < (ys.length : Int) := by omega
        have HB := hid hbr
        clear hc1 hc2 hbr
        by_cases he : x = y
        · have HE := hid (takeS ex ey htk he)
          have hd : (x == y) = true := by simpa using he
          have hdn : (x != y) = false := by simpa using he
          clear he ex ey htk
          go_wp2
          go_quiet (fail)
          go_wp2
          go_roundw
          case rel => exact ⟨below_drewN HB.out _, k + 1, by omega, by go_num, HE.out⟩
          case measure => simp [intOf]; omega
        · have HE := hid (notS ex ey he)
          have hd : (x == y) = false := by simpa using he
          have hdn : (x != y) = true := by simpa using he
          clear he ex ey htk
          go_wp2
          go_quiet (fail)
          go_wp2
          go_ret
          exact ⟨by rw [HE.out]; rfl, below_drewN HB.out _⟩
      · have hk' : k = xs.length := by omega
        have he : xs = ys := by
          have := htk
          rw [hk', List.take_length, HLEN.out, List.take_length] at this
          exact this
        have hki : ¬ (k : Int) < (xs.length : Int) := by omega
        clear htk
        have HE := hid (decide_eq_true he)
        clear he hk'
        have HB := hid hbr
        clear hbr
        go_wp2
        go_ret
        exact ⟨by rw [HE.out]; rfl, HB.out⟩
  · have hb : (((xs.length : Int) != (ys.length : Int))) = true := by simp; omega
    have HN : Hid (decide (xs = ys) = false) := by
      simp only [Hid, decide_eq_false_iff_not]
      rintro rfl
      exact hlen rfl
    clear hlen
    go_enter Tryd.func76, Tryd.ntmps76
    go_wp2
    go_ret
    exact ⟨by rw [HN.out]; rfl, Below.refl _ _⟩
set_option maxHeartbeats 1600000 in
theorem sameInts_any (A B : Option Addr) (c d : Nat) (xs ys : List (Int)) (w : World) (hx : Sl w A (xs.map (Value.int .i64))) (hy : Sl w B (ys.map (Value.int .i64))) (hxl : xs.length ≤ maxLen) (hyl : ys.length ≤ maxLen) :
    Calls Tryd.prog 80 #[.slice A xs.length c, .slice B ys.length d] w (SaysB w (decide (xs = ys))) := by
  unfold maxLen at hxl hyl
  by_cases hlen : xs.length = ys.length
  · have hb : (((xs.length : Int) != (ys.length : Int))) = false := by simp [hlen]
    have HLEN := hid hlen
    clear hlen
    go_enter Tryd.func80, Tryd.ntmps80
    go_wp2
    go_loopw [5] (fun i wr => EqRel w xs ys i wr) (fun i _ => xs.length - (intOf i).toNat)
    case atStart => exact ⟨Below.refl _ _, 0, Nat.zero_le _, rfl, by simp⟩
    case round =>
      obtain ⟨hbr, k, hk, rfl, htk⟩ := hrel
      by_cases hlt : k < xs.length
      · have hlt' : k < ys.length := by rw [← HLEN.out]; exact hlt
        obtain ⟨b1, o1, rfl, hw1, hc1⟩ := hx.at (by rw [List.length_map]; omega)
        obtain ⟨b2, o2, rfl, hw2, hc2⟩ := hy.at (by rw [List.length_map]; omega)
        obtain ⟨x, ex⟩ : ∃ x, xs[k]? = some x := ⟨xs[k], List.getElem?_eq_getElem hlt⟩
        obtain ⟨y, ey⟩ : ∃ y, ys[k]? = some y := ⟨ys[k], List.getElem?_eq_getElem hlt'⟩
        have d1 : wr.cell? ⟨b1, o1 + k, none⟩ = some (.int .i64 x) := (hbr.cell (p := ⟨b1, o1 + k, none⟩) hw1).trans ((hc1 k (by rw [List.length_map]; omega)).trans (by rw [List.getElem?_map, ex]; rfl))
        have d2 : wr.cell? ⟨b2, o2 + k, none⟩ = some (.int .i64 y) := (hbr.cell (p := ⟨b2, o2 + k, none⟩) hw2).trans ((hc2 k (by rw [List.length_map]; omega)).trans (by rw [List.getElem?_map, ey]; rfl))
        have hki : (k : Int) < (xs.length : Int) := by omega
        have hki' : (k : Int) < (ys.length : Int) := by omega
        have HB := hid hbr
        clear hc1 hc2 hbr
        by_cases he : x = y
        · have HE := hid (takeS ex ey htk he)
          have hd : (x == y) = true := by simpa using he
          have hdn : (x != y) = false := by simpa using he
          clear he ex ey htk
          go_wp2
          go_quiet (fail)
          go_wp2
          go_roundw
          case rel => exact ⟨below_drewN HB.out _, k + 1, by omega, by go_num, HE.out⟩
          case measure => simp [intOf]; omega
        · have HE := hid (notS ex ey he)
          have hd : (x == y) = false := by simpa using he
          have hdn : (x != y) = true := by simpa using he
          clear he ex ey htk
          go_wp2
          go_quiet (fail)
          go_wp2
          go_ret
          exact ⟨by rw [HE.out]; rfl, below_drewN HB.out _⟩
      · have hk' : k = xs.length := by omega
        have he : xs = ys := by
          have := htk
          rw [hk', List.take_length, HLEN.out, List.take_length] at this
          exact this
        have hki : ¬ (k : Int) < (xs.length : Int) := by omega
        clear htk
        have HE := hid (decide_eq_true he)
        clear he hk'
        have HB := hid hbr
        clear hbr
        go_wp2
        go_ret
        exact ⟨by rw [HE.out]; rfl, HB.out⟩
  · have hb : (((xs.length : Int) != (ys.length : Int))) = true := by simp; omega
    have HN : Hid (decide (xs = ys) = false) := by
      simp only [Hid, decide_eq_false_iff_not]
      rintro rfl
      exact hlen rfl
    clear hlen
    go_enter Tryd.func80, Tryd.ntmps80
    go_wp2
    go_ret
    exact ⟨by rw [HN.out]; rfl, Below.refl _ _⟩
set_option maxHeartbeats 1600000 in
theorem equalBids_any (A B : Option Addr) (c d : Nat) (xs ys : List (Int × Int)) (w : World) (hx : Sl w A (xs.flatMap bidC)) (hy : Sl w B (ys.flatMap bidC)) (hxl : xs.length ≤ maxLen) (hyl : ys.length ≤ maxLen) :
    Calls Tryd.prog 92 #[.slice A xs.length c, .slice B ys.length d] w (SaysB w (decide (xs = ys))) := by
  unfold maxLen at hxl hyl
  by_cases hlen : xs.length = ys.length
  · have hb : (((xs.length : Int) != (ys.length : Int))) = false := by simp [hlen]
    have HLEN := hid hlen
    clear hlen
    go_enter Tryd.func92, Tryd.ntmps92
    go_wp2
    go_loopw [13] (fun i wr => EqRel w xs ys i wr) (fun i _ => xs.length - (intOf i).toNat)
    case atStart => exact ⟨Below.refl _ _, 0, Nat.zero_le _, rfl, by simp⟩
    case round =>
      obtain ⟨hbr, k, hk, rfl, htk⟩ := hrel
      by_cases hlt : k < xs.length
      · have hlt' : k < ys.length := by rw [← HLEN.out]; exact hlt
        obtain ⟨b1, o1, rfl, hw1, hc1⟩ := hx.at (by rw [flat_length bidC_len]; omega)
        obtain ⟨b2, o2, rfl, hw2, hc2⟩ := hy.at (by rw [flat_length bidC_len]; omega)
        obtain ⟨x, ex⟩ : ∃ x, xs[k]? = some x := ⟨xs[k], List.getElem?_eq_getElem hlt⟩
        obtain ⟨y, ey⟩ : ∃ y, ys[k]? = some y := ⟨ys[k], List.getElem?_eq_getElem hlt'⟩
        have d10 : wr.cell? ⟨b1, o1 + k * 2, none⟩ = some (.int .i64 x.1) := (hbr.cell (p := ⟨b1, o1 + k * 2, none⟩) hw1).trans (bid_cell hc1 ex (j := 0) (by omega))
        have d11 : wr.cell? ⟨b1, o1 + k * 2 + 1, none⟩ = some (.int .i64 x.2) := (hbr.cell (p := ⟨b1, o1 + k * 2 + 1, none⟩) hw1).trans (bid_cell hc1 ex (j := 1) (by omega))
        have d20 : wr.cell? ⟨b2, o2 + k * 2, none⟩ = some (.int .i64 y.1) := (hbr.cell (p := ⟨b2, o2 + k * 2, none⟩) hw2).trans (bid_cell hc2 ey (j := 0) (by omega))
        have d21 : wr.cell? ⟨b2, o2 + k * 2 + 1, none⟩ = some (.int .i64 y.2) := (hbr.cell (p := ⟨b2, o2 + k * 2 + 1, none⟩) hw2).trans (bid_cell hc2 ey (j := 1) (by omega))
        have hki : (k : Int) < (xs.length : Int) := by omega
        have hki' : (k : Int) < (ys.length : Int) := by omega
        have HB := hid hbr
        clear hc1 hc2 hbr
        obtain ⟨x0, x1⟩ := x
        obtain ⟨y0, y1⟩ := y
        dsimp only at d10 d11 d20 d21
        by_cases he : ((x0, x1) : Int × Int) = (y0, y1)
        · have HE := hid (takeS ex ey htk he)
          obtain ⟨rfl, rfl⟩ := Prod.mk.inj he
          clear he ex ey htk
          have q0 : (x0 == x0) = true := by simp
          have q1 : (x1 == x1) = true := by simp
          go_wp2
          go_quiet (fail)
          go_wp2
          go_roundw
          case rel => exact ⟨below_drewN HB.out _, k + 1, by omega, by go_num, HE.out⟩
          case measure => simp [intOf]; omega
        · have HE := hid (notS ex ey he)
          by_cases h0 : x0 = y0
          · subst h0
            have q0 : (x0 == x0) = true := by simp
            have h1 : ¬ x1 = y1 := fun h => he (by rw [h])
            have q1 : (x1 == y1) = false := by simpa using h1
            clear he ex ey htk h1
            go_wp2
            go_quiet (fail)
            go_wp2
            go_ret
            exact ⟨by rw [HE.out]; rfl, below_drewN HB.out _⟩
          · have q0 : (x0 == y0) = false := by simpa using h0
            clear he ex ey htk h0
            go_wp2
            go_quiet (fail)
            go_wp2
            go_ret
            exact ⟨by rw [HE.out]; rfl, below_drewN HB.out _⟩
      · have hk' : k = xs.length := by omega
        have he : xs = ys := by
          have := htk
          rw [hk', List.take_length, HLEN.out, List.take_length] at this
          exact this
        have hki : ¬ (k : Int) < (xs.length : Int) := by omega
        clear htk
        have HE := hid (decide_eq_true he)
        clear he hk'
        have HB := hid hbr
        clear hbr
        go_wp2
        go_ret
        exact ⟨by rw [HE.out]; rfl, HB.out⟩
  · have hb : (((xs.length : Int) != (ys.length : Int))) = true := by simp; omega
    have HN : Hid (decide (xs = ys) = false) := by
      simp only [Hid, decide_eq_false_iff_not]
      rintro rfl
      exact hlen rfl
    clear hlen
    go_enter Tryd.func92, Tryd.ntmps92
    go_wp2
    go_ret
    exact ⟨by rw [HN.out]; rfl, Below.refl _ _⟩
set_option maxHeartbeats 1600000 in
theorem sameBids_any (A B : Option Addr) (c d : Nat) (xs ys : List (Int × Int)) (w : World) (hx : Sl w A (xs.flatMap bidC)) (hy : Sl w B (ys.flatMap bidC)) (hxl : xs.length ≤ maxLen) (hyl : ys.length ≤ maxLen) :
    Calls Tryd.prog 98 #[.slice A xs.length c, .slice B ys.length d] w (SaysB w (decide (xs = ys))) := by
  unfold maxLen at hxl hyl
  by_cases hlen : xs.length = ys.length
  · have hb : (((xs.length : Int) != (ys.length : Int))) = false := by simp [hlen]
    have HLEN := hid hlen
    clear hlen
    go_enter Tryd.func98, Tryd.ntmps98
    go_wp2
    go_loopw [5] (fun i wr => EqRel w xs ys i wr) (fun i _ => xs.length - (intOf i).toNat)
    case atStart => exact ⟨Below.refl _ _, 0, Nat.zero_le _, rfl, by simp⟩
    case round =>
      obtain ⟨hbr, k, hk, rfl, htk⟩ := hrel
      by_cases hlt : k < xs.length
      · have hlt' : k < ys.length := by rw [← HLEN.out]; exact hlt
        obtain ⟨b1, o1, rfl, hw1, hc1⟩ := hx.at (by rw [flat_length bidC_len]; omega)
        obtain ⟨b2, o2, rfl, hw2, hc2⟩ := hy.at (by rw [flat_length bidC_len]; omega)
        obtain ⟨x, ex⟩ : ∃ x, xs[k]? = some x := ⟨xs[k], List.getElem?_eq_getElem hlt⟩
        obtain ⟨y, ey⟩ : ∃ y, ys[k]? = some y := ⟨ys[k], List.getElem?_eq_getElem hlt'⟩
        have d10 : wr.cell? ⟨b1, o1 + k * 2, none⟩ = some (.int .i64 x.1) := (hbr.cell (p := ⟨b1, o1 + k * 2, none⟩) hw1).trans (bid_cell hc1 ex (j := 0) (by omega))
        have d11 : wr.cell? ⟨b1, o1 + k * 2 + 1, none⟩ = some (.int .i64 x.2) := (hbr.cell (p := ⟨b1, o1 + k * 2 + 1, none⟩) hw1).trans (bid_cell hc1 ex (j := 1) (by omega))
        have d20 : wr.cell? ⟨b2, o2 + k * 2, none⟩ = some (.int .i64 y.1) := (hbr.cell (p := ⟨b2, o2 + k * 2, none⟩) hw2).trans (bid_cell hc2 ey (j := 0) (by omega))
        have d21 : wr.cell? ⟨b2, o2 + k * 2 + 1, none⟩ = some (.int .i64 y.2) := (hbr.cell (p := ⟨b2, o2 + k * 2 + 1, none⟩) hw2).trans (bid_cell hc2 ey (j := 1) (by omega))
        have hki : (k : Int) < (xs.length : Int) := by omega
        have hki' : (k : Int) < (ys.length : Int) := by omega
        have HB := hid hbr
        clear hc1 hc2 hbr
        obtain ⟨x0, x1⟩ := x
        obtain ⟨y0, y1⟩ := y
        dsimp only at d10 d11 d20 d21
        by_cases he : ((x0, x1) : Int × Int) = (y0, y1)
        · have HE := hid (takeS ex ey htk he)
          obtain ⟨rfl, rfl⟩ := Prod.mk.inj he
          clear he ex ey htk
          have q0 : (x0 == x0) = true := by simp
          have q1 : (x1 == x1) = true := by simp
          have hsb := sameBid_any x0 x1 x0 x1 wr.drew
          rw [decide_eq_true rfl] at hsb
          go_wp2_with fail
          refine wp_region_held_drew (S := fun w' => w'.cell? ⟨b1, o1 + k * 2, none⟩ = some (.int .i64 x0) ∧ w'.cell? ⟨b1, o1 + k * 2 + 1, none⟩ = some (.int .i64 x1) ∧ w'.cell? ⟨b2, o2 + k * 2, none⟩ = some (.int .i64 x0) ∧ w'.cell? ⟨b2, o2 + k * 2 + 1, none⟩ = some (.int .i64 x1)) (by kernel_rfl) ?_ (fun hHeld => ?_)
          · (try dsimp only); (first | exact ⟨d10, d11, d20, d21⟩ | exact ⟨p10, p11, p20, p21⟩)
          refine held_take 0 ?_ rfl (by kernel_rfl) (by kernel_rfl) (by kernel_rfl) (fun _ _ _ h => h) (by rfl) ?_ hHeld ?_
          rotate_left
          · (intro w hSw; (try dsimp only at hSw); go_simp; try with_reducible rfl)
          try simp only [Act.put, List.setIfInBounds_toArray, List.set_cons_zero, List.set_cons_succ]
          refine held_take 1 ?_ rfl (by kernel_rfl) (by kernel_rfl) (by kernel_rfl) (fun _ _ _ h => h) (by rfl) ?_ hHeld ?_
          rotate_left
          · (intro w hSw; (try dsimp only at hSw); go_simp; try with_reducible rfl)
          try simp only [Act.put, List.setIfInBounds_toArray, List.set_cons_zero, List.set_cons_succ]
          refine held_take 2 ?_ rfl (by kernel_rfl) (by kernel_rfl) (by kernel_rfl) (fun _ _ _ h => h) (by rfl) ?_ hHeld ?_
          rotate_left
          · (intro w hSw; (try dsimp only at hSw); go_simp; try with_reducible rfl)
          try simp only [Act.put, List.setIfInBounds_toArray, List.set_cons_zero, List.set_cons_succ]
          refine held_take 3 ?_ rfl (by kernel_rfl) (by kernel_rfl) (by kernel_rfl) (fun _ _ _ h => h) (by rfl) ?_ hHeld ?_
          rotate_left
          · (intro w hSw; (try dsimp only at hSw); go_simp; try with_reducible rfl)
          try simp only [Act.put, List.setIfInBounds_toArray, List.set_cons_zero, List.set_cons_succ]
          refine held_take 4 ?_ rfl (by kernel_rfl) (by kernel_rfl) (by kernel_rfl) (fun _ _ _ h => h) (by rfl) ?_ hHeld ?_
          rotate_left
          · (intro w hSw; (try dsimp only at hSw); go_simp; try with_reducible rfl)
          try simp only [Act.put, List.setIfInBounds_toArray, List.set_cons_zero, List.set_cons_succ]
          refine held_take 5 ?_ rfl (by kernel_rfl) (by kernel_rfl) (by kernel_rfl) (fun _ _ _ h => h) (by rfl) ?_ hHeld ?_
          rotate_left
          · (intro w hSw; (try dsimp only at hSw); go_simp; try with_reducible rfl)
          try simp only [Act.put, List.setIfInBounds_toArray, List.set_cons_zero, List.set_cons_succ]
          refine held_take 6 ?_ rfl (by kernel_rfl) (by kernel_rfl) (by kernel_rfl) (fun _ _ _ h => h) (by rfl) ?_ hHeld ?_
          rotate_left
          · (intro w hSw; (try dsimp only at hSw); go_simp; try with_reducible rfl)
          try simp only [Act.put, List.setIfInBounds_toArray, List.set_cons_zero, List.set_cons_succ]
          refine held_take 7 ?_ rfl (by kernel_rfl) (by kernel_rfl) (by kernel_rfl) (fun _ _ _ h => h) (by rfl) ?_ hHeld ?_
          rotate_left
          · (intro w hSw; (try dsimp only at hSw); go_simp; try with_reducible rfl)
          try simp only [Act.put, List.setIfInBounds_toArray, List.set_cons_zero, List.set_cons_succ]
          refine held_one 8 rfl (by kernel_rfl) (by rfl) (fun K hK => ?_)
          go_simp
          refine hsb.mono ?_
          rintro e w' ⟨rfl, hb2⟩
          have p10 := (hb2.cell (lt_of_cell d10)).trans d10
          have p11 := (hb2.cell (lt_of_cell d11)).trans d11
          have p20 := (hb2.cell (lt_of_cell d20)).trans d20
          have p21 := (hb2.cell (lt_of_cell d21)).trans d21
          refine hK.out _ _ ?_ (fun hHeld2 => ?_)
          · (try dsimp only); (first | exact ⟨d10, d11, d20, d21⟩ | exact ⟨p10, p11, p20, p21⟩)
          clear hK K hHeld
          have hHeld := hHeld2
          clear hHeld2
          try simp only [Act.put, List.setIfInBounds_toArray, List.set_cons_zero, List.set_cons_succ]
          refine held_take 9 ?_ rfl (by kernel_rfl) (by kernel_rfl) (by kernel_rfl) (fun _ _ _ h => h) (by rfl) ?_ hHeld ?_
          rotate_left
          · (intro w hSw; (try dsimp only at hSw); go_simp; try with_reducible rfl)
          try simp only [Act.put, List.setIfInBounds_toArray, List.set_cons_zero, List.set_cons_succ]
          refine wpAnyH_done (by kernel_rfl) ?_ _
          clear hHeld
          have HB2 := hid (HB.out.trans ((Below.refl wr.heap.size wr).drew.trans hb2 |>.mono HB.out.size))
          go_wp2_with fail
          go_roundw
          case rel => exact ⟨HB2.out, k + 1, by omega, by go_num, HE.out⟩
          case measure => simp [intOf]; omega
        · have HE := hid (notS ex ey he)
          by_cases h0 : x0 = y0
          · subst h0
            have q0 : (x0 == x0) = true := by simp
            have h1 : ¬ x1 = y1 := fun h => he (by rw [h])
            have q1 : (x1 == y1) = false := by simpa using h1
            clear he ex ey htk h1
            have hsb := sameBid_any x0 x1 x0 y1 wr.drew
            rw [show decide (((x0, x1) : Int × Int) = (x0, y1)) = false from by rw [decide_eq_false_iff_not]; intro h; obtain ⟨h1, h2⟩ := Prod.mk.inj h; rw [h2] at q1; simp at q1] at hsb
            go_wp2_with fail
            refine wp_region_held_drew (S := fun w' => w'.cell? ⟨b1, o1 + k * 2, none⟩ = some (.int .i64 x0) ∧ w'.cell? ⟨b1, o1 + k * 2 + 1, none⟩ = some (.int .i64 x1) ∧ w'.cell? ⟨b2, o2 + k * 2, none⟩ = some (.int .i64 x0) ∧ w'.cell? ⟨b2, o2 + k * 2 + 1, none⟩ = some (.int .i64 y1)) (by kernel_rfl) ?_ (fun hHeld => ?_)
            · (try dsimp only); (first | exact ⟨d10, d11, d20, d21⟩ | exact ⟨p10, p11, p20, p21⟩)
            refine held_take 0 ?_ rfl (by kernel_rfl) (by kernel_rfl) (by kernel_rfl) (fun _ _ _ h => h) (by rfl) ?_ hHeld ?_
            rotate_left
            · (intro w hSw; (try dsimp only at hSw); go_simp; try with_reducible rfl)
            try simp only [Act.put, List.setIfInBounds_toArray, List.set_cons_zero, List.set_cons_succ]
            refine held_take 1 ?_ rfl (by kernel_rfl) (by kernel_rfl) (by kernel_rfl) (fun _ _ _ h => h) (by rfl) ?_ hHeld ?_
            rotate_left
            · (intro w hSw; (try dsimp only at hSw); go_simp; try with_reducible rfl)
            try simp only [Act.put, List.setIfInBounds_toArray, List.set_cons_zero, List.set_cons_succ]
            refine held_take 2 ?_ rfl (by kernel_rfl) (by kernel_rfl) (by kernel_rfl) (fun _ _ _ h => h) (by rfl) ?_ hHeld ?_
            rotate_left
            · (intro w hSw; (try dsimp only at hSw); go_simp; try with_reducible rfl)
            try simp only [Act.put, List.setIfInBounds_toArray, List.set_cons_zero, List.set_cons_succ]
            refine held_take 3 ?_ rfl (by kernel_rfl) (by kernel_rfl) (by kernel_rfl) (fun _ _ _ h => h) (by rfl) ?_ hHeld ?_
            rotate_left
            · (intro w hSw; (try dsimp only at hSw); go_simp; try with_reducible rfl)
            try simp only [Act.put, List.setIfInBounds_toArray, List.set_cons_zero, List.set_cons_succ]
            refine held_take 4 ?_ rfl (by kernel_rfl) (by kernel_rfl) (by kernel_rfl) (fun _ _ _ h => h) (by rfl) ?_ hHeld ?_
            rotate_left
            · (intro w hSw; (try dsimp only at hSw); go_simp; try with_reducible rfl)
            try simp only [Act.put, List.setIfInBounds_toArray, List.set_cons_zero, List.set_cons_succ]
            refine held_take 5 ?_ rfl (by kernel_rfl) (by kernel_rfl) (by kernel_rfl) (fun _ _ _ h => h) (by rfl) ?_ hHeld ?_
            rotate_left
            · (intro w hSw; (try dsimp only at hSw); go_simp; try with_reducible rfl)
            try simp only [Act.put, List.setIfInBounds_toArray, List.set_cons_zero, List.set_cons_succ]
            refine held_take 6 ?_ rfl (by kernel_rfl) (by kernel_rfl) (by kernel_rfl) (fun _ _ _ h => h) (by rfl) ?_ hHeld ?_
            rotate_left
            · (intro w hSw; (try dsimp only at hSw); go_simp; try with_reducible rfl)
            try simp only [Act.put, List.setIfInBounds_toArray, List.set_cons_zero, List.set_cons_succ]
            refine held_take 7 ?_ rfl (by kernel_rfl) (by kernel_rfl) (by kernel_rfl) (fun _ _ _ h => h) (by rfl) ?_ hHeld ?_
            rotate_left
            · (intro w hSw; (try dsimp only at hSw); go_simp; try with_reducible rfl)
            try simp only [Act.put, List.setIfInBounds_toArray, List.set_cons_zero, List.set_cons_succ]
            refine held_one 8 rfl (by kernel_rfl) (by rfl) (fun K hK => ?_)
            go_simp
            refine hsb.mono ?_
            rintro e w' ⟨rfl, hb2⟩
            have p10 := (hb2.cell (lt_of_cell d10)).trans d10
            have p11 := (hb2.cell (lt_of_cell d11)).trans d11
            have p20 := (hb2.cell (lt_of_cell d20)).trans d20
            have p21 := (hb2.cell (lt_of_cell d21)).trans d21
            refine hK.out _ _ ?_ (fun hHeld2 => ?_)
            · (try dsimp only); (first | exact ⟨d10, d11, d20, d21⟩ | exact ⟨p10, p11, p20, p21⟩)
            clear hK K hHeld
            have hHeld := hHeld2
            clear hHeld2
            try simp only [Act.put, List.setIfInBounds_toArray, List.set_cons_zero, List.set_cons_succ]
            refine held_take 9 ?_ rfl (by kernel_rfl) (by kernel_rfl) (by kernel_rfl) (fun _ _ _ h => h) (by rfl) ?_ hHeld ?_
            rotate_left
            · (intro w hSw; (try dsimp only at hSw); go_simp; try with_reducible rfl)
            try simp only [Act.put, List.setIfInBounds_toArray, List.set_cons_zero, List.set_cons_succ]
            refine wpAnyH_done (by kernel_rfl) ?_ _
            clear hHeld
            have HB2 := hid (HB.out.trans ((Below.refl wr.heap.size wr).drew.trans hb2 |>.mono HB.out.size))
            go_wp2_with fail
            go_ret
            exact ⟨by rw [HE.out]; rfl, HB2.out⟩
          · have q0 : (x0 == y0) = false := by simpa using h0
            clear he ex ey htk h0
            have hsb := sameBid_any x0 x1 y0 y1 wr.drew
            rw [show decide (((x0, x1) : Int × Int) = (y0, y1)) = false from by rw [decide_eq_false_iff_not]; intro h; obtain ⟨h1, h2⟩ := Prod.mk.inj h; rw [h1] at q0; simp at q0] at hsb
            go_wp2_with fail
            refine wp_region_held_drew (S := fun w' => w'.cell? ⟨b1, o1 + k * 2, none⟩ = some (.int .i64 x0) ∧ w'.cell? ⟨b1, o1 + k * 2 + 1, none⟩ = some (.int .i64 x1) ∧ w'.cell? ⟨b2, o2 + k * 2, none⟩ = some (.int .i64 y0) ∧ w'.cell? ⟨b2, o2 + k * 2 + 1, none⟩ = some (.int .i64 y1)) (by kernel_rfl) ?_ (fun hHeld => ?_)
            · (try dsimp only); (first | exact ⟨d10, d11, d20, d21⟩ | exact ⟨p10, p11, p20, p21⟩)
            refine held_take 0 ?_ rfl (by kernel_rfl) (by kernel_rfl) (by kernel_rfl) (fun _ _ _ h => h) (by rfl) ?_ hHeld ?_
            rotate_left
            · (intro w hSw; (try dsimp only at hSw); go_simp; try with_reducible rfl)
            try simp only [Act.put, List.setIfInBounds_toArray, List.set_cons_zero, List.set_cons_succ]
            refine held_take 1 ?_ rfl (by kernel_rfl) (by kernel_rfl) (by kernel_rfl) (fun _ _ _ h => h) (by rfl) ?_ hHeld ?_
            rotate_left
            · (intro w hSw; (try dsimp only at hSw); go_simp; try with_reducible rfl)
            try simp only [Act.put, List.setIfInBounds_toArray, List.set_cons_zero, List.set_cons_succ]
            refine held_take 2 ?_ rfl (by kernel_rfl) (by kernel_rfl) (by kernel_rfl) (fun _ _ _ h => h) (by rfl) ?_ hHeld ?_
            rotate_left
            · (intro w hSw; (try dsimp only at hSw); go_simp; try with_reducible rfl)
            try simp only [Act.put, List.setIfInBounds_toArray, List.set_cons_zero, List.set_cons_succ]
            refine held_take 3 ?_ rfl (by kernel_rfl) (by kernel_rfl) (by kernel_rfl) (fun _ _ _ h => h) (by rfl) ?_ hHeld ?_
            rotate_left
            · (intro w hSw; (try dsimp only at hSw); go_simp; try with_reducible rfl)
            try simp only [Act.put, List.setIfInBounds_toArray, List.set_cons_zero, List.set_cons_succ]
            refine held_take 4 ?_ rfl (by kernel_rfl) (by kernel_rfl) (by kernel_rfl) (fun _ _ _ h => h) (by rfl) ?_ hHeld ?_
            rotate_left
            · (intro w hSw; (try dsimp only at hSw); go_simp; try with_reducible rfl)
            try simp only [Act.put, List.setIfInBounds_toArray, List.set_cons_zero, List.set_cons_succ]
            refine held_take 5 ?_ rfl (by kernel_rfl) (by kernel_rfl) (by kernel_rfl) (fun _ _ _ h => h) (by rfl) ?_ hHeld ?_
            rotate_left
            · (intro w hSw; (try dsimp only at hSw); go_simp; try with_reducible rfl)
            try simp only [Act.put, List.setIfInBounds_toArray, List.set_cons_zero, List.set_cons_succ]
            refine held_take 6 ?_ rfl (by kernel_rfl) (by kernel_rfl) (by kernel_rfl) (fun _ _ _ h => h) (by rfl) ?_ hHeld ?_
            rotate_left
            · (intro w hSw; (try dsimp only at hSw); go_simp; try with_reducible rfl)
            try simp only [Act.put, List.setIfInBounds_toArray, List.set_cons_zero, List.set_cons_succ]
            refine held_take 7 ?_ rfl (by kernel_rfl) (by kernel_rfl) (by kernel_rfl) (fun _ _ _ h => h) (by rfl) ?_ hHeld ?_
            rotate_left
            · (intro w hSw; (try dsimp only at hSw); go_simp; try with_reducible rfl)
            try simp only [Act.put, List.setIfInBounds_toArray, List.set_cons_zero, List.set_cons_succ]
            refine held_one 8 rfl (by kernel_rfl) (by rfl) (fun K hK => ?_)
            go_simp
            refine hsb.mono ?_
            rintro e w' ⟨rfl, hb2⟩
            have p10 := (hb2.cell (lt_of_cell d10)).trans d10
            have p11 := (hb2.cell (lt_of_cell d11)).trans d11
            have p20 := (hb2.cell (lt_of_cell d20)).trans d20
            have p21 := (hb2.cell (lt_of_cell d21)).trans d21
            refine hK.out _ _ ?_ (fun hHeld2 => ?_)
            · (try dsimp only); (first | exact ⟨d10, d11, d20, d21⟩ | exact ⟨p10, p11, p20, p21⟩)
            clear hK K hHeld
            have hHeld := hHeld2
            clear hHeld2
            try simp only [Act.put, List.setIfInBounds_toArray, List.set_cons_zero, List.set_cons_succ]
            refine held_take 9 ?_ rfl (by kernel_rfl) (by kernel_rfl) (by kernel_rfl) (fun _ _ _ h => h) (by rfl) ?_ hHeld ?_
            rotate_left
            · (intro w hSw; (try dsimp only at hSw); go_simp; try with_reducible rfl)
            try simp only [Act.put, List.setIfInBounds_toArray, List.set_cons_zero, List.set_cons_succ]
            refine wpAnyH_done (by kernel_rfl) ?_ _
            clear hHeld
            have HB2 := hid (HB.out.trans ((Below.refl wr.heap.size wr).drew.trans hb2 |>.mono HB.out.size))
            go_wp2_with fail
            go_ret
            exact ⟨by rw [HE.out]; rfl, HB2.out⟩
      · have hk' : k = xs.length := by omega
        have he : xs = ys := by
          have := htk
          rw [hk', List.take_length, HLEN.out, List.take_length] at this
          exact this
        have hki : ¬ (k : Int) < (xs.length : Int) := by omega
        clear htk
        have HE := hid (decide_eq_true he)
        clear he hk'
        have HB := hid hbr
        clear hbr
        go_wp2
        go_ret
        exact ⟨by rw [HE.out]; rfl, HB.out⟩
  · have hb : (((xs.length : Int) != (ys.length : Int))) = true := by simp; omega
    have HN : Hid (decide (xs = ys) = false) := by
      simp only [Hid, decide_eq_false_iff_not]
      rintro rfl
      exact hlen rfl
    clear hlen
    go_enter Tryd.func98, Tryd.ntmps98
    go_wp2
    go_ret
    exact ⟨by rw [HN.out]; rfl, Below.refl _ _⟩

/-- An entry as plain data. -/
abbrev EntL.pl (e : EntL) : Int × Int × Int × Int × List (Int × Int) := (e.floor, e.dir, e.gen, e.award, e.bids)
abbrev EntL.val (e : EntL) : Value := .agg #[.int .i64 e.floor, .int .i64 e.dir, .int .i64 e.gen, .slice e.A e.bids.length e.c, .int .i64 e.award]
set_option maxHeartbeats 800000 in
theorem sameCall_any (a b c d : Int) (w : World) : Calls Tryd.prog 100 #[.agg #[.int .i64 a, .int .i64 b], .agg #[.int .i64 c, .int .i64 d]] w (SaysB w (decide (((a, b) : Int × Int) = (c, d)))) := by
  have HE : Hid (decide (((a, b) : Int × Int) = (c, d)) = (a == c && b == d)) := by rw [Hid, Bool.eq_iff_iff]; simp
  rw [HE.out]
  clear HE
  go_enter Tryd.func100, Tryd.ntmps100
  go_wp2
  all_goals (go_ret; exact ⟨ret_bool (by simp_all), ((Below.refl _ _).alloc (Nat.le_refl _) _).alloc (by simp) _⟩)
set_option maxHeartbeats 800000 in
theorem sameEpoch_any (a b c d : Int) (w : World) : Calls Tryd.prog 79 #[.agg #[.int .i64 a, .int .i64 b], .agg #[.int .i64 c, .int .i64 d]] w (SaysB w (decide (((a, b) : Int × Int) = (c, d)))) := by
  have HE : Hid (decide (((a, b) : Int × Int) = (c, d)) = (a == c && b == d)) := by rw [Hid, Bool.eq_iff_iff]; simp
  rw [HE.out]
  clear HE
  go_enter Tryd.func79, Tryd.ntmps79
  go_wp2
  all_goals (go_ret; exact ⟨ret_bool (by simp_all), ((Below.refl _ _).alloc (Nat.le_refl _) _).alloc (by simp) _⟩)
set_option maxHeartbeats 800000 in
theorem sameLatch_any (a b g c d k : Int) (w : World) : Calls Tryd.prog 97 #[.agg #[.int .i64 a, .int .i64 b, .int .i64 g], .agg #[.int .i64 c, .int .i64 d, .int .i64 k]] w (SaysB w (decide (((a, b, g) : Int × Int × Int) = (c, d, k)))) := by
  obtain ⟨w0, hw0⟩ : ∃ w0, w0 = (w.alloc (.cells #[.int .i64 a, .int .i64 b, .int .i64 g] 57)).alloc (.cells #[.int .i64 c, .int .i64 d, .int .i64 k] 57) := ⟨_, rfl⟩
  have hB0 : Below w.heap.size w w0 := by rw [hw0]; exact ((Below.refl _ _).alloc (Nat.le_refl _) _).alloc (by simp) _
  have x0 : Blk w0 w.heap.size [.int .i64 a, .int .i64 b, .int .i64 g] 57 := by rw [hw0]; exact (Blk.new w _ _).alloc _
  have x1 : Blk w0 (w.heap.size + 1) [.int .i64 c, .int .i64 d, .int .i64 k] 57 := by
    rw [hw0, show w.heap.size + 1 = (w.alloc (.cells #[.int .i64 a, .int .i64 b, .int .i64 g] 57)).heap.size from by simp]
    exact Blk.new _ _ _
  have hc := sameCall_any a b c d w0
  go_enter Tryd.func97, Tryd.ntmps97
  go_wp2_with fail
  rw [← hw0]
  clear hw0
  refine hc.mono ?_
  rintro e w1 ⟨rfl, hb1⟩
  have hB1 := hB0.trans (hb1.mono hB0.size)
  have y0 := (Eff.of_below (S := fun _ => False) hb1).blk x0 (fun h => h)
  have y1 := (Eff.of_below (S := fun _ => False) hb1).blk x1 (fun h => h)
  have d0 : w1.cell? ⟨w.heap.size, 2, none⟩ = some (.int .i64 g) := y0.cell 2
  have d1 : w1.cell? ⟨w.heap.size + 1, 2, none⟩ = some (.int .i64 k) := y1.cell 2
  clear x0 x1 y0 y1 hc hb1
  by_cases h : ((a, b) : Int × Int) = (c, d)
  · have HE : Hid (decide (((a, b, g) : Int × Int × Int) = (c, d, k)) = (g == k)) := by
      obtain ⟨rfl, rfl⟩ := Prod.mk.inj h
      rw [Hid, Bool.eq_iff_iff]; simp
    rw [decide_eq_true h]
    clear h
    go_wp2_with fail
    go_ret
    exact ⟨by rw [HE.out]; rfl, hB1⟩
  · have HE : Hid (decide (((a, b, g) : Int × Int × Int) = (c, d, k)) = false) := by
      rw [Hid, decide_eq_false_iff_not]
      intro q
      injection q with q1 q2
      injection q2 with q2 q3
      exact h (by rw [q1, q2])
    rw [decide_eq_false h]
    clear h
    go_wp2_with fail
    go_ret
    exact ⟨by rw [HE.out]; rfl, hB1⟩

set_option maxRecDepth 100000 in
set_option maxHeartbeats 1600000 in
theorem sameEntry_any (a b : EntL) (w : World) (ha : a.here w) (hb : b.here w) (la : a.bids.length ≤ maxLen) (lb : b.bids.length ≤ maxLen) : Calls Tryd.prog 78 #[a.val, b.val] w (SaysB w (decide (a.pl = b.pl))) := by
  obtain ⟨fl, di, ge, aw, bs, A, c⟩ := a
  obtain ⟨fl', di', ge', aw', bs', A', c'⟩ := b
  obtain ⟨w0, hw0⟩ : ∃ w0, w0 = (w.alloc (.cells #[.int .i64 fl, .int .i64 di, .int .i64 ge, .slice A bs.length c, .int .i64 aw] 62)).alloc (.cells #[.int .i64 fl', .int .i64 di', .int .i64 ge', .slice A' bs'.length c', .int .i64 aw'] 62) := ⟨_, rfl⟩
  have hB0 : Below w.heap.size w w0 := by rw [hw0]; exact ((Below.refl _ _).alloc (Nat.le_refl _) _).alloc (by simp) _
  have x0 : Blk w0 w.heap.size [.int .i64 fl, .int .i64 di, .int .i64 ge, .slice A bs.length c, .int .i64 aw] 62 := by rw [hw0]; exact (Blk.new w _ _).alloc _
  have x1 : Blk w0 (w.heap.size + 1) [.int .i64 fl', .int .i64 di', .int .i64 ge', .slice A' bs'.length c', .int .i64 aw'] 62 := by
    rw [hw0, show w.heap.size + 1 = (w.alloc (.cells #[.int .i64 fl, .int .i64 di, .int .i64 ge, .slice A bs.length c, .int .i64 aw] 62)).heap.size from by simp]
    exact Blk.new _ _ _
  have HQ := hid (And.intro (EntL.on ha hB0) (And.intro (EntL.on hb hB0) (And.intro la lb)))
  clear ha hb la lb
  simp only [EntL.pl, EntL.val]
  generalize hR : decide ((fl, di, ge, aw, bs) = (fl', di', ge', aw', bs')) = R
  have HR := hid hR
  clear hR
  go_enter Tryd.func78, Tryd.ntmps78
  go_upto_region 1 with (fail)
  rw [← hw0]
  clear hw0
  have d00 : w0.cell? ⟨w.heap.size, 0, none⟩ = some (.int .i64 fl) := x0.cell 0
  have d01 : w0.cell? ⟨w.heap.size, 1, none⟩ = some (.int .i64 di) := x0.cell 1
  have d02 : w0.cell? ⟨w.heap.size, 2, none⟩ = some (.int .i64 ge) := x0.cell 2
  have d03 : w0.cell? ⟨w.heap.size, 3, none⟩ = some (.slice A bs.length c) := x0.cell 3
  have d04 : w0.cell? ⟨w.heap.size, 4, none⟩ = some (.int .i64 aw) := x0.cell 4
  have d10 : w0.cell? ⟨w.heap.size + 1, 0, none⟩ = some (.int .i64 fl') := x1.cell 0
  have d11 : w0.cell? ⟨w.heap.size + 1, 1, none⟩ = some (.int .i64 di') := x1.cell 1
  have d12 : w0.cell? ⟨w.heap.size + 1, 2, none⟩ = some (.int .i64 ge') := x1.cell 2
  have d13 : w0.cell? ⟨w.heap.size + 1, 3, none⟩ = some (.slice A' bs'.length c') := x1.cell 3
  have d14 : w0.cell? ⟨w.heap.size + 1, 4, none⟩ = some (.int .i64 aw') := x1.cell 4
  by_cases h0 : fl = fl'
  case neg =>
    have HO : Hid (R = false) := by
      rw [Hid, ← HR.out, decide_eq_false_iff_not]
      simp only [Prod.mk.injEq]
      intro q
      exact h0 q.1
    have q0 : (fl == fl') = false := by simpa using h0
    have q0' : (fl' == fl) = false := by simpa using fun e : fl' = fl => h0 e.symm
    clear h0
    go_wp2_with fail
    go_ret
    exact ⟨by rw [HO.out]; simp [q0, q0'], hB0⟩
  obtain rfl : fl = fl' := h0
  by_cases h1 : di = di'
  case neg =>
    have HO : Hid (R = false) := by
      rw [Hid, ← HR.out, decide_eq_false_iff_not]
      simp only [Prod.mk.injEq]
      intro q
      exact h1 q.2.1
    have q1 : (di == di') = false := by simpa using h1
    have q1' : (di' == di) = false := by simpa using fun e : di' = di => h1 e.symm
    clear h1
    go_wp2_with fail
    go_ret
    exact ⟨by rw [HO.out]; simp [q1, q1'], hB0⟩
  obtain rfl : di = di' := h1
  by_cases h2 : ge = ge'
  case neg =>
    have HO : Hid (R = false) := by
      rw [Hid, ← HR.out, decide_eq_false_iff_not]
      simp only [Prod.mk.injEq]
      intro q
      exact h2 q.2.2.1
    have q2 : (ge == ge') = false := by simpa using h2
    have q2' : (ge' == ge) = false := by simpa using fun e : ge' = ge => h2 e.symm
    clear h2
    go_wp2_with fail
    go_ret
    exact ⟨by rw [HO.out]; simp [q2, q2'], hB0⟩
  obtain rfl : ge = ge' := h2
  by_cases h3 : aw = aw'
  case neg =>
    have HO : Hid (R = false) := by
      rw [Hid, ← HR.out, decide_eq_false_iff_not]
      simp only [Prod.mk.injEq]
      intro q
      exact h3 q.2.2.2.1
    have q3 : (aw == aw') = false := by simpa using h3
    have q3' : (aw' == aw) = false := by simpa using fun e : aw' = aw => h3 e.symm
    clear h3
    go_wp2_with fail
    go_ret
    exact ⟨by rw [HO.out]; simp [q3, q3'], hB0⟩
  obtain rfl : aw = aw' := h3
  have hq := equalBids_any A A' c c' bs bs' w0 HQ.out.1 HQ.out.2.1 HQ.out.2.2.1 HQ.out.2.2.2
  go_wp2_with fail
  refine hq.mono ?_
  rintro e w2 ⟨rfl, hb2⟩
  have hB2 := hB0.trans (hb2.mono hB0.size)
  have HO : Hid (R = decide (bs = bs')) := by rw [Hid, ← HR.out, Bool.eq_iff_iff]; simp
  go_wp2_with fail
  go_ret
  exact ⟨by rw [HO.out]; rfl, hB2⟩
set_option maxRecDepth 100000 in
set_option maxHeartbeats 1600000 in
theorem refSameEntry_any (a b : EntL) (w : World) (ha : a.here w) (hb : b.here w) (la : a.bids.length ≤ maxLen) (lb : b.bids.length ≤ maxLen) : Calls Tryd.prog 93 #[a.val, b.val] w (SaysB w (decide (a.pl = b.pl))) := by
  obtain ⟨fl, di, ge, aw, bs, A, c⟩ := a
  obtain ⟨fl', di', ge', aw', bs', A', c'⟩ := b
  obtain ⟨w0, hw0⟩ : ∃ w0, w0 = (w.alloc (.cells #[.int .i64 fl, .int .i64 di, .int .i64 ge, .slice A bs.length c, .int .i64 aw] 62)).alloc (.cells #[.int .i64 fl', .int .i64 di', .int .i64 ge', .slice A' bs'.length c', .int .i64 aw'] 62) := ⟨_, rfl⟩
  have hB0 : Below w.heap.size w w0 := by rw [hw0]; exact ((Below.refl _ _).alloc (Nat.le_refl _) _).alloc (by simp) _
  have x0 : Blk w0 w.heap.size [.int .i64 fl, .int .i64 di, .int .i64 ge, .slice A bs.length c, .int .i64 aw] 62 := by rw [hw0]; exact (Blk.new w _ _).alloc _
  have x1 : Blk w0 (w.heap.size + 1) [.int .i64 fl', .int .i64 di', .int .i64 ge', .slice A' bs'.length c', .int .i64 aw'] 62 := by
    rw [hw0, show w.heap.size + 1 = (w.alloc (.cells #[.int .i64 fl, .int .i64 di, .int .i64 ge, .slice A bs.length c, .int .i64 aw] 62)).heap.size from by simp]
    exact Blk.new _ _ _
  have HQ := hid (And.intro (EntL.on ha hB0) (And.intro (EntL.on hb hB0) (And.intro la lb)))
  clear ha hb la lb
  simp only [EntL.pl, EntL.val]
  generalize hR : decide ((fl, di, ge, aw, bs) = (fl', di', ge', aw', bs')) = R
  have HR := hid hR
  clear hR
  go_enter Tryd.func93, Tryd.ntmps93
  go_upto_region 1 with (fail)
  rw [← hw0]
  clear hw0
  have d00 : w0.cell? ⟨w.heap.size, 0, none⟩ = some (.int .i64 fl) := x0.cell 0
  have d01 : w0.cell? ⟨w.heap.size, 1, none⟩ = some (.int .i64 di) := x0.cell 1
  have d02 : w0.cell? ⟨w.heap.size, 2, none⟩ = some (.int .i64 ge) := x0.cell 2
  have d03 : w0.cell? ⟨w.heap.size, 3, none⟩ = some (.slice A bs.length c) := x0.cell 3
  have d04 : w0.cell? ⟨w.heap.size, 4, none⟩ = some (.int .i64 aw) := x0.cell 4
  have d10 : w0.cell? ⟨w.heap.size + 1, 0, none⟩ = some (.int .i64 fl') := x1.cell 0
  have d11 : w0.cell? ⟨w.heap.size + 1, 1, none⟩ = some (.int .i64 di') := x1.cell 1
  have d12 : w0.cell? ⟨w.heap.size + 1, 2, none⟩ = some (.int .i64 ge') := x1.cell 2
  have d13 : w0.cell? ⟨w.heap.size + 1, 3, none⟩ = some (.slice A' bs'.length c') := x1.cell 3
  have d14 : w0.cell? ⟨w.heap.size + 1, 4, none⟩ = some (.int .i64 aw') := x1.cell 4
  have hl := sameLatch_any fl di ge fl' di' ge' w0
  by_cases h0 : ((fl, di, ge) : Int × Int × Int) = (fl', di', ge')
  case neg =>
    have HO : Hid (R = false) := by
      rw [Hid, ← HR.out, decide_eq_false_iff_not]
      simp only [Prod.mk.injEq]
      intro q
      exact h0 (by rw [q.1, q.2.1, q.2.2.1])
    rw [decide_eq_false h0] at hl
    clear h0
    go_wp2_with fail
    refine hl.mono ?_
    rintro e w1 ⟨rfl, hb1⟩
    have hB1 := hB0.trans (hb1.mono hB0.size)
    go_wp2_with fail
    go_ret
    exact ⟨by rw [HO.out]; rfl, hB1⟩
  rw [decide_eq_true h0] at hl
  simp only [Prod.mk.injEq] at h0
  obtain ⟨rfl, rfl, rfl⟩ := h0
  go_wp2_with fail
  refine hl.mono ?_
  rintro e w1 ⟨rfl, hb1⟩
  have hB1 := hB0.trans (hb1.mono hB0.size)
  have y0 := (Eff.of_below (S := fun _ => False) hb1).blk x0 (fun h => h)
  have y1 := (Eff.of_below (S := fun _ => False) hb1).blk x1 (fun h => h)
  have HQ1 := hid (And.intro (EntL.on HQ.out.1 hb1) (And.intro (EntL.on HQ.out.2.1 hb1) HQ.out.2.2))
  have e00 : w1.cell? ⟨w.heap.size, 0, none⟩ = some (.int .i64 fl) := y0.cell 0
  have e01 : w1.cell? ⟨w.heap.size, 1, none⟩ = some (.int .i64 di) := y0.cell 1
  have e02 : w1.cell? ⟨w.heap.size, 2, none⟩ = some (.int .i64 ge) := y0.cell 2
  have e03 : w1.cell? ⟨w.heap.size, 3, none⟩ = some (.slice A bs.length c) := y0.cell 3
  have e04 : w1.cell? ⟨w.heap.size, 4, none⟩ = some (.int .i64 aw) := y0.cell 4
  have e10 : w1.cell? ⟨w.heap.size + 1, 0, none⟩ = some (.int .i64 fl) := y1.cell 0
  have e11 : w1.cell? ⟨w.heap.size + 1, 1, none⟩ = some (.int .i64 di) := y1.cell 1
  have e12 : w1.cell? ⟨w.heap.size + 1, 2, none⟩ = some (.int .i64 ge) := y1.cell 2
  have e13 : w1.cell? ⟨w.heap.size + 1, 3, none⟩ = some (.slice A' bs'.length c') := y1.cell 3
  have e14 : w1.cell? ⟨w.heap.size + 1, 4, none⟩ = some (.int .i64 aw') := y1.cell 4
  have hq := sameBids_any A A' c c' bs bs' w1 HQ1.out.1 HQ1.out.2.1 HQ1.out.2.2.1 HQ1.out.2.2.2
  clear hl HQ hb1 x0 x1
  go_wp2_with fail
  refine hq.mono ?_
  rintro e w2 ⟨rfl, hb2⟩
  have hB2 := hB1.trans (hb2.mono hB1.size)
  have z0 := (Eff.of_below (S := fun _ => False) hb2).blk y0 (fun h => h)
  have z1 := (Eff.of_below (S := fun _ => False) hb2).blk y1 (fun h => h)
  have f4 : w2.cell? ⟨w.heap.size, 4, none⟩ = some (.int .i64 aw) := z0.cell 4
  have g4 : w2.cell? ⟨w.heap.size + 1, 4, none⟩ = some (.int .i64 aw') := z1.cell 4
  by_cases h1 : bs = bs'
  · have HO : Hid (R = (aw == aw')) := by rw [Hid, ← HR.out, Bool.eq_iff_iff]; simp [h1]
    rw [decide_eq_true h1]
    clear h1
    go_wp2_with fail
    go_ret
    exact ⟨by rw [HO.out]; rfl, hB2⟩
  · have HO : Hid (R = false) := by rw [Hid, ← HR.out, decide_eq_false_iff_not]; simp [h1]
    rw [decide_eq_false h1]
    clear h1
    go_wp2_with fail
    go_ret
    exact ⟨by rw [HO.out]; rfl, hB2⟩

instance decPl : DecidableEq (Int × Int × Int × Int × List (Int × Int)) := fun a b => inferInstanceAs (Decidable (a = b))
/-- Entries that lie in a slice. -/
structure EntsAt (w : World) (A : Option Addr) (es : List EntL) : Prop where
  ent : Sl w A (es.flatMap EntL.cells)
  bid : ∀ e ∈ es, e.here w ∧ e.bids.length ≤ maxLen
  len : es.length ≤ maxLen
theorem EntsAt.on {w w' : World} {A : Option Addr} {es : List EntL} (h : EntsAt w A es) (hb : Below w.heap.size w w') : EntsAt w' A es := ⟨It2 h.ent hb, fun e he => ⟨EntL.on (h.bid e he).1 hb, (h.bid e he).2⟩, h.len⟩
theorem FrOk.ents {w : World} {f : FrL} (h : FrOk w f) : EntsAt w f.EA f.es := ⟨h.ent, fun e he => ⟨h.bid e he, h.lens.2.2 e he⟩, h.lens.2.1⟩
set_option maxRecDepth 100000 in
set_option maxHeartbeats 4000000 in
theorem equalEnts_any (A B : Option Addr) (c d : Nat) (xs ys : List EntL) (w : World) (hx : EntsAt w A xs) (hy : EntsAt w B ys) :
    Calls Tryd.prog 77 #[.slice A xs.length c, .slice B ys.length d, Value.func (.func 78) #[] #[]] w (SaysB w (decide (xs.map EntL.pl = ys.map EntL.pl))) := by
  have hxl := hx.len
  have hyl := hy.len
  unfold maxLen at hxl hyl
  generalize hR : decide (xs.map EntL.pl = ys.map EntL.pl) = R
  have HR := hid hR
  clear hR
  by_cases hlen : xs.length = ys.length
  · have hb : (((xs.length : Int) != (ys.length : Int))) = false := by simp [hlen]
    have HLEN := hid hlen
    clear hlen
    go_enter Tryd.func77, Tryd.ntmps77
    go_wp2
    go_loopw [17] (fun i wr => EqRel w (xs.map EntL.pl) (ys.map EntL.pl) i wr) (fun i _ => xs.length - (intOf i).toNat)
    case atStart => exact ⟨Below.refl _ _, 0, Nat.zero_le _, rfl, by simp⟩
    case round =>
      obtain ⟨hbr, k, hk, rfl, htk⟩ := hrel
      rw [List.length_map] at hk
      by_cases hlt : k < xs.length
      · have hlt' : k < ys.length := by rw [← HLEN.out]; exact hlt
        obtain ⟨b1, o1, rfl, hw1, hc1⟩ := hx.ent.at (by rw [flat_length EntL.len]; omega)
        obtain ⟨b2, o2, rfl, hw2, hc2⟩ := hy.ent.at (by rw [flat_length EntL.len]; omega)
        obtain ⟨x, ex⟩ : ∃ x, xs[k]? = some x := ⟨xs[k], List.getElem?_eq_getElem hlt⟩
        obtain ⟨y, ey⟩ : ∃ y, ys[k]? = some y := ⟨ys[k], List.getElem?_eq_getElem hlt'⟩
        have d10 : wr.cell? ⟨b1, o1 + k * 5, none⟩ = some (.int .i64 x.floor) := (hbr.cell (p := ⟨b1, o1 + k * 5, none⟩) hw1).trans (ent_cell hc1 ex (j := 0) (by omega))
        have d11 : wr.cell? ⟨b1, o1 + k * 5 + 1, none⟩ = some (.int .i64 x.dir) := (hbr.cell (p := ⟨b1, o1 + k * 5 + 1, none⟩) hw1).trans (ent_cell hc1 ex (j := 1) (by omega))
        have d12 : wr.cell? ⟨b1, o1 + k * 5 + 2, none⟩ = some (.int .i64 x.gen) := (hbr.cell (p := ⟨b1, o1 + k * 5 + 2, none⟩) hw1).trans (ent_cell hc1 ex (j := 2) (by omega))
        have d13 : wr.cell? ⟨b1, o1 + k * 5 + 3, none⟩ = some (.slice x.A x.bids.length x.c) := (hbr.cell (p := ⟨b1, o1 + k * 5 + 3, none⟩) hw1).trans (ent_cell hc1 ex (j := 3) (by omega))
        have d14 : wr.cell? ⟨b1, o1 + k * 5 + 4, none⟩ = some (.int .i64 x.award) := (hbr.cell (p := ⟨b1, o1 + k * 5 + 4, none⟩) hw1).trans (ent_cell hc1 ex (j := 4) (by omega))
        have d20 : wr.cell? ⟨b2, o2 + k * 5, none⟩ = some (.int .i64 y.floor) := (hbr.cell (p := ⟨b2, o2 + k * 5, none⟩) hw2).trans (ent_cell hc2 ey (j := 0) (by omega))
        have d21 : wr.cell? ⟨b2, o2 + k * 5 + 1, none⟩ = some (.int .i64 y.dir) := (hbr.cell (p := ⟨b2, o2 + k * 5 + 1, none⟩) hw2).trans (ent_cell hc2 ey (j := 1) (by omega))
        have d22 : wr.cell? ⟨b2, o2 + k * 5 + 2, none⟩ = some (.int .i64 y.gen) := (hbr.cell (p := ⟨b2, o2 + k * 5 + 2, none⟩) hw2).trans (ent_cell hc2 ey (j := 2) (by omega))
        have d23 : wr.cell? ⟨b2, o2 + k * 5 + 3, none⟩ = some (.slice y.A y.bids.length y.c) := (hbr.cell (p := ⟨b2, o2 + k * 5 + 3, none⟩) hw2).trans (ent_cell hc2 ey (j := 3) (by omega))
        have d24 : wr.cell? ⟨b2, o2 + k * 5 + 4, none⟩ = some (.int .i64 y.award) := (hbr.cell (p := ⟨b2, o2 + k * 5 + 4, none⟩) hw2).trans (ent_cell hc2 ey (j := 4) (by omega))
        have hki : (k : Int) < (xs.length : Int) := by omega
        have hki' : (k : Int) < (ys.length : Int) := by omega
        have HB := hid hbr
        have hbx := hx.bid x (List.mem_of_getElem? ex)
        have hby := hy.bid y (List.mem_of_getElem? ey)
        have HX := hid (And.intro (EntL.on hbx.1 hbr) (And.intro (EntL.on hby.1 hbr) (And.intro hbx.2 hby.2)))
        have ex' : (xs.map EntL.pl)[k]? = some x.pl := by rw [List.getElem?_map, ex]; rfl
        have ey' : (ys.map EntL.pl)[k]? = some y.pl := by rw [List.getElem?_map, ey]; rfl
        have hb2 : Below wr.heap.size wr ((wr.alloc (.cells #[.int .i64 x.floor, .int .i64 x.dir, .int .i64 x.gen, .slice x.A x.bids.length x.c, .int .i64 x.award] 62)).alloc (.cells #[.int .i64 y.floor, .int .i64 y.dir, .int .i64 y.gen, .slice y.A y.bids.length y.c, .int .i64 y.award] 62)) := ((Below.refl _ _).alloc (Nat.le_refl _) _).alloc (by simp) _
        have HB2 := hid (HB.out.trans (hb2.mono HB.out.size))
        have hse := sameEntry_any x y _ (EntL.on HX.out.1 hb2) (EntL.on HX.out.2.1 hb2) HX.out.2.2.1 HX.out.2.2.2
        have hl1 := lt_of_cell d10
        have hl2 := lt_of_cell d20
        clear hb2
        clear hc1 hc2 hbr hbx hby ex ey
        by_cases he : x.pl = y.pl
        · have HE := hid (takeS ex' ey' htk he)
          rw [decide_eq_true he] at hse
          clear he ex' ey' htk
          go_wp2_with fail
          refine hse.mono ?_
          rintro e w' ⟨rfl, hb3⟩
          have HB3 := hid (HB2.out.trans (hb3.mono HB2.out.size))
          go_wp2_with fail
          go_roundw
          case rel => exact ⟨HB3.out, k + 1, by rw [List.length_map]; omega, by go_num, HE.out⟩
          case measure => simp [intOf]; omega
        · have HE := hid (HR.out.symm.trans (notS ex' ey' he))
          rw [decide_eq_false he] at hse
          clear he ex' ey' htk
          go_wp2_with fail
          refine hse.mono ?_
          rintro e w' ⟨rfl, hb3⟩
          have HB3 := hid (HB2.out.trans (hb3.mono HB2.out.size))
          go_wp2_with fail
          go_ret
          exact ⟨by rw [HE.out]; rfl, HB3.out⟩
      · have hk' : k = xs.length := by omega
        have he : xs.map EntL.pl = ys.map EntL.pl := by
          have := htk
          rw [hk'] at this
          have e1 : (xs.map EntL.pl).take xs.length = xs.map EntL.pl := by rw [List.take_of_length_le (by rw [List.length_map]; exact Nat.le_refl _)]
          have e2 : (ys.map EntL.pl).take xs.length = ys.map EntL.pl := by rw [List.take_of_length_le (by rw [List.length_map, HLEN.out]; exact Nat.le_refl _)]
          rw [e1, e2] at this
          exact this
        have hki : ¬ (k : Int) < (xs.length : Int) := by omega
        clear htk
        have HE := hid (HR.out.symm.trans (decide_eq_true he))
        clear he hk'
        have HB := hid hbr
        clear hbr
        go_wp2
        go_ret
        exact ⟨by rw [HE.out]; rfl, HB.out⟩
  · have hb : (((xs.length : Int) != (ys.length : Int))) = true := by simp; omega
    have HN : Hid (R = false) := by
      rw [Hid, ← HR.out, decide_eq_false_iff_not]
      intro h
      have := congrArg List.length h
      rw [List.length_map, List.length_map] at this
      exact hlen this
    clear hlen
    go_enter Tryd.func77, Tryd.ntmps77
    go_wp2
    go_ret
    exact ⟨by rw [HN.out]; rfl, Below.refl _ _⟩
set_option maxRecDepth 100000 in
set_option maxHeartbeats 4000000 in
theorem sameEnts_any (A B : Option Addr) (c d : Nat) (xs ys : List EntL) (w : World) (hx : EntsAt w A xs) (hy : EntsAt w B ys) :
    Calls Tryd.prog 81 #[.slice A xs.length c, .slice B ys.length d] w (SaysB w (decide (xs.map EntL.pl = ys.map EntL.pl))) := by
  have hxl := hx.len
  have hyl := hy.len
  unfold maxLen at hxl hyl
  generalize hR : decide (xs.map EntL.pl = ys.map EntL.pl) = R
  have HR := hid hR
  clear hR
  by_cases hlen : xs.length = ys.length
  · have hb : (((xs.length : Int) != (ys.length : Int))) = false := by simp [hlen]
    have HLEN := hid hlen
    clear hlen
    go_enter Tryd.func81, Tryd.ntmps81
    go_wp2
    go_loopw [5] (fun i wr => EqRel w (xs.map EntL.pl) (ys.map EntL.pl) i wr) (fun i _ => xs.length - (intOf i).toNat)
    case atStart => exact ⟨Below.refl _ _, 0, Nat.zero_le _, rfl, by simp⟩
    case round =>
      obtain ⟨hbr, k, hk, rfl, htk⟩ := hrel
      rw [List.length_map] at hk
      by_cases hlt : k < xs.length
      · have hlt' : k < ys.length := by rw [← HLEN.out]; exact hlt
        obtain ⟨b1, o1, rfl, hw1, hc1⟩ := hx.ent.at (by rw [flat_length EntL.len]; omega)
        obtain ⟨b2, o2, rfl, hw2, hc2⟩ := hy.ent.at (by rw [flat_length EntL.len]; omega)
        obtain ⟨x, ex⟩ : ∃ x, xs[k]? = some x := ⟨xs[k], List.getElem?_eq_getElem hlt⟩
        obtain ⟨y, ey⟩ : ∃ y, ys[k]? = some y := ⟨ys[k], List.getElem?_eq_getElem hlt'⟩
        have d10 : wr.cell? ⟨b1, o1 + k * 5, none⟩ = some (.int .i64 x.floor) := (hbr.cell (p := ⟨b1, o1 + k * 5, none⟩) hw1).trans (ent_cell hc1 ex (j := 0) (by omega))
        have d11 : wr.cell? ⟨b1, o1 + k * 5 + 1, none⟩ = some (.int .i64 x.dir) := (hbr.cell (p := ⟨b1, o1 + k * 5 + 1, none⟩) hw1).trans (ent_cell hc1 ex (j := 1) (by omega))
        have d12 : wr.cell? ⟨b1, o1 + k * 5 + 2, none⟩ = some (.int .i64 x.gen) := (hbr.cell (p := ⟨b1, o1 + k * 5 + 2, none⟩) hw1).trans (ent_cell hc1 ex (j := 2) (by omega))
        have d13 : wr.cell? ⟨b1, o1 + k * 5 + 3, none⟩ = some (.slice x.A x.bids.length x.c) := (hbr.cell (p := ⟨b1, o1 + k * 5 + 3, none⟩) hw1).trans (ent_cell hc1 ex (j := 3) (by omega))
        have d14 : wr.cell? ⟨b1, o1 + k * 5 + 4, none⟩ = some (.int .i64 x.award) := (hbr.cell (p := ⟨b1, o1 + k * 5 + 4, none⟩) hw1).trans (ent_cell hc1 ex (j := 4) (by omega))
        have d20 : wr.cell? ⟨b2, o2 + k * 5, none⟩ = some (.int .i64 y.floor) := (hbr.cell (p := ⟨b2, o2 + k * 5, none⟩) hw2).trans (ent_cell hc2 ey (j := 0) (by omega))
        have d21 : wr.cell? ⟨b2, o2 + k * 5 + 1, none⟩ = some (.int .i64 y.dir) := (hbr.cell (p := ⟨b2, o2 + k * 5 + 1, none⟩) hw2).trans (ent_cell hc2 ey (j := 1) (by omega))
        have d22 : wr.cell? ⟨b2, o2 + k * 5 + 2, none⟩ = some (.int .i64 y.gen) := (hbr.cell (p := ⟨b2, o2 + k * 5 + 2, none⟩) hw2).trans (ent_cell hc2 ey (j := 2) (by omega))
        have d23 : wr.cell? ⟨b2, o2 + k * 5 + 3, none⟩ = some (.slice y.A y.bids.length y.c) := (hbr.cell (p := ⟨b2, o2 + k * 5 + 3, none⟩) hw2).trans (ent_cell hc2 ey (j := 3) (by omega))
        have d24 : wr.cell? ⟨b2, o2 + k * 5 + 4, none⟩ = some (.int .i64 y.award) := (hbr.cell (p := ⟨b2, o2 + k * 5 + 4, none⟩) hw2).trans (ent_cell hc2 ey (j := 4) (by omega))
        have hki : (k : Int) < (xs.length : Int) := by omega
        have hki' : (k : Int) < (ys.length : Int) := by omega
        have HB := hid hbr
        have hbx := hx.bid x (List.mem_of_getElem? ex)
        have hby := hy.bid y (List.mem_of_getElem? ey)
        have HX := hid (And.intro (EntL.on hbx.1 hbr) (And.intro (EntL.on hby.1 hbr) (And.intro hbx.2 hby.2)))
        have ex' : (xs.map EntL.pl)[k]? = some x.pl := by rw [List.getElem?_map, ex]; rfl
        have ey' : (ys.map EntL.pl)[k]? = some y.pl := by rw [List.getElem?_map, ey]; rfl
        have hse := refSameEntry_any x y wr.drew (EntL.on HX.out.1 (Below.refl _ _).drew) (EntL.on HX.out.2.1 (Below.refl _ _).drew) HX.out.2.2.1 HX.out.2.2.2
        clear hc1 hc2 hbr hbx hby ex ey
        by_cases he : x.pl = y.pl
        · have HE := hid (takeS ex' ey' htk he)
          rw [decide_eq_true he] at hse
          clear he ex' ey' htk
          go_wp2_with fail
          refine wp_region_held_drew (S := fun w' => w'.cell? ⟨b1, o1 + k * 5, none⟩ = some (.int .i64 x.floor) ∧ w'.cell? ⟨b1, o1 + k * 5 + 1, none⟩ = some (.int .i64 x.dir) ∧ w'.cell? ⟨b1, o1 + k * 5 + 2, none⟩ = some (.int .i64 x.gen) ∧ w'.cell? ⟨b1, o1 + k * 5 + 3, none⟩ = some (.slice x.A x.bids.length x.c) ∧ w'.cell? ⟨b1, o1 + k * 5 + 4, none⟩ = some (.int .i64 x.award) ∧ w'.cell? ⟨b2, o2 + k * 5, none⟩ = some (.int .i64 y.floor) ∧ w'.cell? ⟨b2, o2 + k * 5 + 1, none⟩ = some (.int .i64 y.dir) ∧ w'.cell? ⟨b2, o2 + k * 5 + 2, none⟩ = some (.int .i64 y.gen) ∧ w'.cell? ⟨b2, o2 + k * 5 + 3, none⟩ = some (.slice y.A y.bids.length y.c) ∧ w'.cell? ⟨b2, o2 + k * 5 + 4, none⟩ = some (.int .i64 y.award)) (by kernel_rfl) ?_ (fun hHeld => ?_)
          · (try dsimp only); (first | exact ⟨d10, d11, d12, d13, d14, d20, d21, d22, d23, d24⟩ | exact ⟨p10, p11, p12, p13, p14, p20, p21, p22, p23, p24⟩)
          refine held_take 0 ?_ rfl (by kernel_rfl) (by kernel_rfl) (by kernel_rfl) (fun _ _ _ h => h) (by rfl) ?_ hHeld ?_
          rotate_left
          · (intro w hSw; (try dsimp only at hSw); go_simp; try with_reducible rfl)
          try simp only [Act.put, List.setIfInBounds_toArray, List.set_cons_zero, List.set_cons_succ]
          refine held_take 1 ?_ rfl (by kernel_rfl) (by kernel_rfl) (by kernel_rfl) (fun _ _ _ h => h) (by rfl) ?_ hHeld ?_
          rotate_left
          · (intro w hSw; (try dsimp only at hSw); go_simp; try with_reducible rfl)
          try simp only [Act.put, List.setIfInBounds_toArray, List.set_cons_zero, List.set_cons_succ]
          refine held_take 2 ?_ rfl (by kernel_rfl) (by kernel_rfl) (by kernel_rfl) (fun _ _ _ h => h) (by rfl) ?_ hHeld ?_
          rotate_left
          · (intro w hSw; (try dsimp only at hSw); go_simp; try with_reducible rfl)
          try simp only [Act.put, List.setIfInBounds_toArray, List.set_cons_zero, List.set_cons_succ]
          refine held_take 3 ?_ rfl (by kernel_rfl) (by kernel_rfl) (by kernel_rfl) (fun _ _ _ h => h) (by rfl) ?_ hHeld ?_
          rotate_left
          · (intro w hSw; (try dsimp only at hSw); go_simp; try with_reducible rfl)
          try simp only [Act.put, List.setIfInBounds_toArray, List.set_cons_zero, List.set_cons_succ]
          refine held_take 4 ?_ rfl (by kernel_rfl) (by kernel_rfl) (by kernel_rfl) (fun _ _ _ h => h) (by rfl) ?_ hHeld ?_
          rotate_left
          · (intro w hSw; (try dsimp only at hSw); go_simp; try with_reducible rfl)
          try simp only [Act.put, List.setIfInBounds_toArray, List.set_cons_zero, List.set_cons_succ]
          refine held_take 5 ?_ rfl (by kernel_rfl) (by kernel_rfl) (by kernel_rfl) (fun _ _ _ h => h) (by rfl) ?_ hHeld ?_
          rotate_left
          · (intro w hSw; (try dsimp only at hSw); go_simp; try with_reducible rfl)
          try simp only [Act.put, List.setIfInBounds_toArray, List.set_cons_zero, List.set_cons_succ]
          refine held_take 6 ?_ rfl (by kernel_rfl) (by kernel_rfl) (by kernel_rfl) (fun _ _ _ h => h) (by rfl) ?_ hHeld ?_
          rotate_left
          · (intro w hSw; (try dsimp only at hSw); go_simp; try with_reducible rfl)
          try simp only [Act.put, List.setIfInBounds_toArray, List.set_cons_zero, List.set_cons_succ]
          refine held_take 7 ?_ rfl (by kernel_rfl) (by kernel_rfl) (by kernel_rfl) (fun _ _ _ h => h) (by rfl) ?_ hHeld ?_
          rotate_left
          · (intro w hSw; (try dsimp only at hSw); go_simp; try with_reducible rfl)
          try simp only [Act.put, List.setIfInBounds_toArray, List.set_cons_zero, List.set_cons_succ]
          refine held_one 8 rfl (by kernel_rfl) (by rfl) (fun K hK => ?_)
          go_simp
          refine hse.mono ?_
          rintro e w' ⟨rfl, hb2⟩
          have p10 := (hb2.cell (lt_of_cell d10)).trans d10
          have p11 := (hb2.cell (lt_of_cell d11)).trans d11
          have p12 := (hb2.cell (lt_of_cell d12)).trans d12
          have p13 := (hb2.cell (lt_of_cell d13)).trans d13
          have p14 := (hb2.cell (lt_of_cell d14)).trans d14
          have p20 := (hb2.cell (lt_of_cell d20)).trans d20
          have p21 := (hb2.cell (lt_of_cell d21)).trans d21
          have p22 := (hb2.cell (lt_of_cell d22)).trans d22
          have p23 := (hb2.cell (lt_of_cell d23)).trans d23
          have p24 := (hb2.cell (lt_of_cell d24)).trans d24
          refine hK.out _ _ ?_ (fun hHeld2 => ?_)
          · (try dsimp only); (first | exact ⟨d10, d11, d12, d13, d14, d20, d21, d22, d23, d24⟩ | exact ⟨p10, p11, p12, p13, p14, p20, p21, p22, p23, p24⟩)
          clear hK K hHeld
          have hHeld := hHeld2
          clear hHeld2
          try simp only [Act.put, List.setIfInBounds_toArray, List.set_cons_zero, List.set_cons_succ]
          refine held_take 9 ?_ rfl (by kernel_rfl) (by kernel_rfl) (by kernel_rfl) (fun _ _ _ h => h) (by rfl) ?_ hHeld ?_
          rotate_left
          · (intro w hSw; (try dsimp only at hSw); go_simp; try with_reducible rfl)
          try simp only [Act.put, List.setIfInBounds_toArray, List.set_cons_zero, List.set_cons_succ]
          refine wpAnyH_done (by kernel_rfl) ?_ _
          clear hHeld
          have HB3 := hid (HB.out.trans ((Below.refl wr.heap.size wr).drew.trans hb2 |>.mono HB.out.size))
          go_wp2_with fail
          go_roundw
          case rel => exact ⟨HB3.out, k + 1, by rw [List.length_map]; omega, by go_num, HE.out⟩
          case measure => simp [intOf]; omega
        · have HE := hid (HR.out.symm.trans (notS ex' ey' he))
          rw [decide_eq_false he] at hse
          clear he ex' ey' htk
          go_wp2_with fail
          refine wp_region_held_drew (S := fun w' => w'.cell? ⟨b1, o1 + k * 5, none⟩ = some (.int .i64 x.floor) ∧ w'.cell? ⟨b1, o1 + k * 5 + 1, none⟩ = some (.int .i64 x.dir) ∧ w'.cell? ⟨b1, o1 + k * 5 + 2, none⟩ = some (.int .i64 x.gen) ∧ w'.cell? ⟨b1, o1 + k * 5 + 3, none⟩ = some (.slice x.A x.bids.length x.c) ∧ w'.cell? ⟨b1, o1 + k * 5 + 4, none⟩ = some (.int .i64 x.award) ∧ w'.cell? ⟨b2, o2 + k * 5, none⟩ = some (.int .i64 y.floor) ∧ w'.cell? ⟨b2, o2 + k * 5 + 1, none⟩ = some (.int .i64 y.dir) ∧ w'.cell? ⟨b2, o2 + k * 5 + 2, none⟩ = some (.int .i64 y.gen) ∧ w'.cell? ⟨b2, o2 + k * 5 + 3, none⟩ = some (.slice y.A y.bids.length y.c) ∧ w'.cell? ⟨b2, o2 + k * 5 + 4, none⟩ = some (.int .i64 y.award)) (by kernel_rfl) ?_ (fun hHeld => ?_)
          · (try dsimp only); (first | exact ⟨d10, d11, d12, d13, d14, d20, d21, d22, d23, d24⟩ | exact ⟨p10, p11, p12, p13, p14, p20, p21, p22, p23, p24⟩)
          refine held_take 0 ?_ rfl (by kernel_rfl) (by kernel_rfl) (by kernel_rfl) (fun _ _ _ h => h) (by rfl) ?_ hHeld ?_
          rotate_left
          · (intro w hSw; (try dsimp only at hSw); go_simp; try with_reducible rfl)
          try simp only [Act.put, List.setIfInBounds_toArray, List.set_cons_zero, List.set_cons_succ]
          refine held_take 1 ?_ rfl (by kernel_rfl) (by kernel_rfl) (by kernel_rfl) (fun _ _ _ h => h) (by rfl) ?_ hHeld ?_
          rotate_left
          · (intro w hSw; (try dsimp only at hSw); go_simp; try with_reducible rfl)
          try simp only [Act.put, List.setIfInBounds_toArray, List.set_cons_zero, List.set_cons_succ]
          refine held_take 2 ?_ rfl (by kernel_rfl) (by kernel_rfl) (by kernel_rfl) (fun _ _ _ h => h) (by rfl) ?_ hHeld ?_
          rotate_left
          · (intro w hSw; (try dsimp only at hSw); go_simp; try with_reducible rfl)
          try simp only [Act.put, List.setIfInBounds_toArray, List.set_cons_zero, List.set_cons_succ]
          refine held_take 3 ?_ rfl (by kernel_rfl) (by kernel_rfl) (by kernel_rfl) (fun _ _ _ h => h) (by rfl) ?_ hHeld ?_
          rotate_left
          · (intro w hSw; (try dsimp only at hSw); go_simp; try with_reducible rfl)
          try simp only [Act.put, List.setIfInBounds_toArray, List.set_cons_zero, List.set_cons_succ]
          refine held_take 4 ?_ rfl (by kernel_rfl) (by kernel_rfl) (by kernel_rfl) (fun _ _ _ h => h) (by rfl) ?_ hHeld ?_
          rotate_left
          · (intro w hSw; (try dsimp only at hSw); go_simp; try with_reducible rfl)
          try simp only [Act.put, List.setIfInBounds_toArray, List.set_cons_zero, List.set_cons_succ]
          refine held_take 5 ?_ rfl (by kernel_rfl) (by kernel_rfl) (by kernel_rfl) (fun _ _ _ h => h) (by rfl) ?_ hHeld ?_
          rotate_left
          · (intro w hSw; (try dsimp only at hSw); go_simp; try with_reducible rfl)
          try simp only [Act.put, List.setIfInBounds_toArray, List.set_cons_zero, List.set_cons_succ]
          refine held_take 6 ?_ rfl (by kernel_rfl) (by kernel_rfl) (by kernel_rfl) (fun _ _ _ h => h) (by rfl) ?_ hHeld ?_
          rotate_left
          · (intro w hSw; (try dsimp only at hSw); go_simp; try with_reducible rfl)
          try simp only [Act.put, List.setIfInBounds_toArray, List.set_cons_zero, List.set_cons_succ]
          refine held_take 7 ?_ rfl (by kernel_rfl) (by kernel_rfl) (by kernel_rfl) (fun _ _ _ h => h) (by rfl) ?_ hHeld ?_
          rotate_left
          · (intro w hSw; (try dsimp only at hSw); go_simp; try with_reducible rfl)
          try simp only [Act.put, List.setIfInBounds_toArray, List.set_cons_zero, List.set_cons_succ]
          refine held_one 8 rfl (by kernel_rfl) (by rfl) (fun K hK => ?_)
          go_simp
          refine hse.mono ?_
          rintro e w' ⟨rfl, hb2⟩
          have p10 := (hb2.cell (lt_of_cell d10)).trans d10
          have p11 := (hb2.cell (lt_of_cell d11)).trans d11
          have p12 := (hb2.cell (lt_of_cell d12)).trans d12
          have p13 := (hb2.cell (lt_of_cell d13)).trans d13
          have p14 := (hb2.cell (lt_of_cell d14)).trans d14
          have p20 := (hb2.cell (lt_of_cell d20)).trans d20
          have p21 := (hb2.cell (lt_of_cell d21)).trans d21
          have p22 := (hb2.cell (lt_of_cell d22)).trans d22
          have p23 := (hb2.cell (lt_of_cell d23)).trans d23
          have p24 := (hb2.cell (lt_of_cell d24)).trans d24
          refine hK.out _ _ ?_ (fun hHeld2 => ?_)
          · (try dsimp only); (first | exact ⟨d10, d11, d12, d13, d14, d20, d21, d22, d23, d24⟩ | exact ⟨p10, p11, p12, p13, p14, p20, p21, p22, p23, p24⟩)
          clear hK K hHeld
          have hHeld := hHeld2
          clear hHeld2
          try simp only [Act.put, List.setIfInBounds_toArray, List.set_cons_zero, List.set_cons_succ]
          refine held_take 9 ?_ rfl (by kernel_rfl) (by kernel_rfl) (by kernel_rfl) (fun _ _ _ h => h) (by rfl) ?_ hHeld ?_
          rotate_left
          · (intro w hSw; (try dsimp only at hSw); go_simp; try with_reducible rfl)
          try simp only [Act.put, List.setIfInBounds_toArray, List.set_cons_zero, List.set_cons_succ]
          refine wpAnyH_done (by kernel_rfl) ?_ _
          clear hHeld
          have HB3 := hid (HB.out.trans ((Below.refl wr.heap.size wr).drew.trans hb2 |>.mono HB.out.size))
          go_wp2_with fail
          go_ret
          exact ⟨by rw [HE.out]; rfl, HB3.out⟩
      · have hk' : k = xs.length := by omega
        have he : xs.map EntL.pl = ys.map EntL.pl := by
          have := htk
          rw [hk'] at this
          have e1 : (xs.map EntL.pl).take xs.length = xs.map EntL.pl := by rw [List.take_of_length_le (by rw [List.length_map]; exact Nat.le_refl _)]
          have e2 : (ys.map EntL.pl).take xs.length = ys.map EntL.pl := by rw [List.take_of_length_le (by rw [List.length_map, HLEN.out]; exact Nat.le_refl _)]
          rw [e1, e2] at this
          exact this
        have hki : ¬ (k : Int) < (xs.length : Int) := by omega
        clear htk
        have HE := hid (HR.out.symm.trans (decide_eq_true he))
        clear he hk'
        have HB := hid hbr
        clear hbr
        go_wp2
        go_ret
        exact ⟨by rw [HE.out]; rfl, HB.out⟩
  · have hb : (((xs.length : Int) != (ys.length : Int))) = true := by simp; omega
    have HN : Hid (R = false) := by
      rw [Hid, ← HR.out, decide_eq_false_iff_not]
      intro h
      have := congrArg List.length h
      rw [List.length_map, List.length_map] at this
      exact hlen this
    clear hlen
    go_enter Tryd.func81, Tryd.ntmps81
    go_wp2
    go_ret
    exact ⟨by rw [HN.out]; rfl, Below.refl _ _⟩

abbrev RingP := Int × Int × Int × List Int × List (Int × Int × Int × Int × List (Int × Int))
instance decRing : DecidableEq RingP := fun a b => inferInstanceAs (Decidable (a = b))
abbrev FrameP := Int × Int × Int × Int × Int × Bool × RingP
instance decFrame : DecidableEq FrameP := fun a b => inferInstanceAs (Decidable (a = b))
/-- A frame as plain data alone. -/
abbrev FrL.pl (f : FrL) : FrameP := (f.kind, f.fr, f.tt, f.life, f.seen, f.out, f.count, f.founder, f.hop, f.ms, f.es.map EntL.pl)
abbrev ringP (count founder hop : Int) (ms : List Int) (es : List EntL) : RingP := (count, founder, hop, ms, es.map EntL.pl)

set_option maxRecDepth 100000 in
set_option maxHeartbeats 1600000 in
theorem sameRing_any (co fo ho : Int) (MA : Option Addr) (mc : Nat) (ms : List Int) (EA : Option Addr) (ec : Nat) (es : List EntL) (co' fo' ho' : Int) (MA' : Option Addr) (mc' : Nat) (ms' : List Int) (EA' : Option Addr) (ec' : Nat) (es' : List EntL) (w : World)
    (hm : Sl w MA (ms.map (Value.int .i64)) ∧ ms.length ≤ maxLen) (hm' : Sl w MA' (ms'.map (Value.int .i64)) ∧ ms'.length ≤ maxLen) (he : EntsAt w EA es) (he' : EntsAt w EA' es') :
    Calls Tryd.prog 57 #[.agg #[.int .i64 co, .int .i64 fo, .int .i64 ho, .slice MA ms.length mc, .slice EA es.length ec], .agg #[.int .i64 co', .int .i64 fo', .int .i64 ho', .slice MA' ms'.length mc', .slice EA' es'.length ec']] w (SaysB w (decide (ringP co fo ho ms es = ringP co' fo' ho' ms' es'))) := by
  obtain ⟨w0, hw0⟩ : ∃ w0, w0 = (w.alloc (.cells #[.int .i64 co, .int .i64 fo, .int .i64 ho, .slice MA ms.length mc, .slice EA es.length ec] 53)).alloc (.cells #[.int .i64 co', .int .i64 fo', .int .i64 ho', .slice MA' ms'.length mc', .slice EA' es'.length ec'] 53) := ⟨_, rfl⟩
  have hB0 : Below w.heap.size w w0 := by rw [hw0]; exact ((Below.refl _ _).alloc (Nat.le_refl _) _).alloc (by simp) _
  have x0 : Blk w0 w.heap.size [.int .i64 co, .int .i64 fo, .int .i64 ho, .slice MA ms.length mc, .slice EA es.length ec] 53 := by rw [hw0]; exact (Blk.new w _ _).alloc _
  have x1 : Blk w0 (w.heap.size + 1) [.int .i64 co', .int .i64 fo', .int .i64 ho', .slice MA' ms'.length mc', .slice EA' es'.length ec'] 53 := by
    rw [hw0, show w.heap.size + 1 = (w.alloc (.cells #[.int .i64 co, .int .i64 fo, .int .i64 ho, .slice MA ms.length mc, .slice EA es.length ec] 53)).heap.size from by simp]
    exact Blk.new _ _ _
  have HQ := hid (And.intro (And.intro (It2 hm.1 hB0) hm.2) (And.intro (And.intro (It2 hm'.1 hB0) hm'.2) (And.intro (he.on hB0) (he'.on hB0))))
  clear hm hm' he he'
  generalize hR : decide (ringP co fo ho ms es = ringP co' fo' ho' ms' es') = R
  have HR := hid hR
  clear hR
  go_enter Tryd.func57, Tryd.ntmps57
  go_upto_region 1 with (fail)
  rw [← hw0]
  clear hw0
  have d00 : w0.cell? ⟨w.heap.size, 0, none⟩ = some (.int .i64 co) := x0.cell 0
  have d01 : w0.cell? ⟨w.heap.size, 1, none⟩ = some (.int .i64 fo) := x0.cell 1
  have d02 : w0.cell? ⟨w.heap.size, 2, none⟩ = some (.int .i64 ho) := x0.cell 2
  have d03 : w0.cell? ⟨w.heap.size, 3, none⟩ = some (.slice MA ms.length mc) := x0.cell 3
  have d04 : w0.cell? ⟨w.heap.size, 4, none⟩ = some (.slice EA es.length ec) := x0.cell 4
  have d10 : w0.cell? ⟨w.heap.size + 1, 0, none⟩ = some (.int .i64 co') := x1.cell 0
  have d11 : w0.cell? ⟨w.heap.size + 1, 1, none⟩ = some (.int .i64 fo') := x1.cell 1
  have d12 : w0.cell? ⟨w.heap.size + 1, 2, none⟩ = some (.int .i64 ho') := x1.cell 2
  have d13 : w0.cell? ⟨w.heap.size + 1, 3, none⟩ = some (.slice MA' ms'.length mc') := x1.cell 3
  have d14 : w0.cell? ⟨w.heap.size + 1, 4, none⟩ = some (.slice EA' es'.length ec') := x1.cell 4
  by_cases h0 : co = co'
  case neg =>
    have HO : Hid (R = false) := by
      rw [Hid, ← HR.out, decide_eq_false_iff_not]
      simp only [ringP, Prod.mk.injEq]
      intro q
      exact h0 q.1
    have q0 : (co == co') = false := by simpa using h0
    have q0' : (co' == co) = false := by simpa using fun e : co' = co => h0 e.symm
    clear h0
    go_wp2_with fail
    go_ret
    exact ⟨by rw [HO.out]; simp [q0, q0'], hB0⟩
  obtain rfl : co = co' := h0
  by_cases h1 : fo = fo'
  case neg =>
    have HO : Hid (R = false) := by
      rw [Hid, ← HR.out, decide_eq_false_iff_not]
      simp only [ringP, Prod.mk.injEq]
      intro q
      exact h1 q.2.1
    have q1 : (fo == fo') = false := by simpa using h1
    have q1' : (fo' == fo) = false := by simpa using fun e : fo' = fo => h1 e.symm
    clear h1
    go_wp2_with fail
    go_ret
    exact ⟨by rw [HO.out]; simp [q1, q1'], hB0⟩
  obtain rfl : fo = fo' := h1
  by_cases h2 : ho = ho'
  case neg =>
    have HO : Hid (R = false) := by
      rw [Hid, ← HR.out, decide_eq_false_iff_not]
      simp only [ringP, Prod.mk.injEq]
      intro q
      exact h2 q.2.2.1
    have q2 : (ho == ho') = false := by simpa using h2
    have q2' : (ho' == ho) = false := by simpa using fun e : ho' = ho => h2 e.symm
    clear h2
    go_wp2_with fail
    go_ret
    exact ⟨by rw [HO.out]; simp [q2, q2'], hB0⟩
  obtain rfl : ho = ho' := h2
  have hi := equalInts_any MA MA' mc mc' ms ms' w0 HQ.out.1.1 HQ.out.2.1.1 HQ.out.1.2 HQ.out.2.1.2
  by_cases h3 : ms = ms'
  case neg =>
    have HO : Hid (R = false) := by
      rw [Hid, ← HR.out, decide_eq_false_iff_not]
      simp only [ringP, Prod.mk.injEq]
      intro q
      exact h3 q.2.2.2.1
    rw [decide_eq_false h3] at hi
    clear h3
    go_wp2_with fail
    refine hi.mono ?_
    rintro e w2 ⟨rfl, hb2⟩
    have hB2 := hB0.trans (hb2.mono hB0.size)
    go_wp2_with fail
    go_ret
    exact ⟨by rw [HO.out]; rfl, hB2⟩
  rw [decide_eq_true h3] at hi
  subst h3
  go_wp2_with fail
  refine hi.mono ?_
  rintro e w2 ⟨rfl, hb2⟩
  have hB2 := hB0.trans (hb2.mono hB0.size)
  have z0 := (Eff.of_below (S := fun _ => False) hb2).blk x0 (fun h => h)
  have z1 := (Eff.of_below (S := fun _ => False) hb2).blk x1 (fun h => h)
  have hen := equalEnts_any EA EA' ec ec' es es' w2 (HQ.out.2.2.1.on hb2) (HQ.out.2.2.2.on hb2)
  have k0 : w2.cell? ⟨w.heap.size, 4, none⟩ = some (.slice EA es.length ec) := z0.cell 4
  have k1 : w2.cell? ⟨w.heap.size + 1, 4, none⟩ = some (.slice EA' es'.length ec') := z1.cell 4
  have HO : Hid (R = decide (es.map EntL.pl = es'.map EntL.pl)) := by
    rw [Hid, ← HR.out, Bool.eq_iff_iff, decide_eq_true_eq, decide_eq_true_eq]
    simp only [ringP, Prod.mk.injEq, true_and]
  generalize decide (es.map EntL.pl = es'.map EntL.pl) = D at *
  clear hi hb2 z0 z1 HQ x0 x1
  go_wp2_with fail
  refine hen.mono ?_
  rintro e w3 ⟨rfl, hb3⟩
  have hB3 := hB2.trans (hb3.mono hB2.size)
  go_wp2_with fail
  go_ret
  exact ⟨by rw [HO.out]; rfl, hB3⟩
set_option maxRecDepth 100000 in
set_option maxHeartbeats 1600000 in
theorem refSameRing_any (co fo ho : Int) (MA : Option Addr) (mc : Nat) (ms : List Int) (EA : Option Addr) (ec : Nat) (es : List EntL) (co' fo' ho' : Int) (MA' : Option Addr) (mc' : Nat) (ms' : List Int) (EA' : Option Addr) (ec' : Nat) (es' : List EntL) (w : World)
    (hm : Sl w MA (ms.map (Value.int .i64)) ∧ ms.length ≤ maxLen) (hm' : Sl w MA' (ms'.map (Value.int .i64)) ∧ ms'.length ≤ maxLen) (he : EntsAt w EA es) (he' : EntsAt w EA' es') :
    Calls Tryd.prog 58 #[.agg #[.int .i64 co, .int .i64 fo, .int .i64 ho, .slice MA ms.length mc, .slice EA es.length ec], .agg #[.int .i64 co', .int .i64 fo', .int .i64 ho', .slice MA' ms'.length mc', .slice EA' es'.length ec']] w (SaysB w (decide (ringP co fo ho ms es = ringP co' fo' ho' ms' es'))) := by
  obtain ⟨w0, hw0⟩ : ∃ w0, w0 = (w.alloc (.cells #[.int .i64 co, .int .i64 fo, .int .i64 ho, .slice MA ms.length mc, .slice EA es.length ec] 53)).alloc (.cells #[.int .i64 co', .int .i64 fo', .int .i64 ho', .slice MA' ms'.length mc', .slice EA' es'.length ec'] 53) := ⟨_, rfl⟩
  have hB0 : Below w.heap.size w w0 := by rw [hw0]; exact ((Below.refl _ _).alloc (Nat.le_refl _) _).alloc (by simp) _
  have x0 : Blk w0 w.heap.size [.int .i64 co, .int .i64 fo, .int .i64 ho, .slice MA ms.length mc, .slice EA es.length ec] 53 := by rw [hw0]; exact (Blk.new w _ _).alloc _
  have x1 : Blk w0 (w.heap.size + 1) [.int .i64 co', .int .i64 fo', .int .i64 ho', .slice MA' ms'.length mc', .slice EA' es'.length ec'] 53 := by
    rw [hw0, show w.heap.size + 1 = (w.alloc (.cells #[.int .i64 co, .int .i64 fo, .int .i64 ho, .slice MA ms.length mc, .slice EA es.length ec] 53)).heap.size from by simp]
    exact Blk.new _ _ _
  have HQ := hid (And.intro (And.intro (It2 hm.1 hB0) hm.2) (And.intro (And.intro (It2 hm'.1 hB0) hm'.2) (And.intro (he.on hB0) (he'.on hB0))))
  clear hm hm' he he'
  generalize hR : decide (ringP co fo ho ms es = ringP co' fo' ho' ms' es') = R
  have HR := hid hR
  clear hR
  go_enter Tryd.func58, Tryd.ntmps58
  go_upto_region 1 with (fail)
  rw [← hw0]
  clear hw0
  have d00 : w0.cell? ⟨w.heap.size, 0, none⟩ = some (.int .i64 co) := x0.cell 0
  have d01 : w0.cell? ⟨w.heap.size, 1, none⟩ = some (.int .i64 fo) := x0.cell 1
  have d02 : w0.cell? ⟨w.heap.size, 2, none⟩ = some (.int .i64 ho) := x0.cell 2
  have d03 : w0.cell? ⟨w.heap.size, 3, none⟩ = some (.slice MA ms.length mc) := x0.cell 3
  have d04 : w0.cell? ⟨w.heap.size, 4, none⟩ = some (.slice EA es.length ec) := x0.cell 4
  have d10 : w0.cell? ⟨w.heap.size + 1, 0, none⟩ = some (.int .i64 co') := x1.cell 0
  have d11 : w0.cell? ⟨w.heap.size + 1, 1, none⟩ = some (.int .i64 fo') := x1.cell 1
  have d12 : w0.cell? ⟨w.heap.size + 1, 2, none⟩ = some (.int .i64 ho') := x1.cell 2
  have d13 : w0.cell? ⟨w.heap.size + 1, 3, none⟩ = some (.slice MA' ms'.length mc') := x1.cell 3
  have d14 : w0.cell? ⟨w.heap.size + 1, 4, none⟩ = some (.slice EA' es'.length ec') := x1.cell 4
  have hs := sameEpoch_any co fo co' fo' w0
  by_cases h0 : ((co, fo) : Int × Int) = (co', fo')
  case neg =>
    have HO : Hid (R = false) := by
      rw [Hid, ← HR.out, decide_eq_false_iff_not]
      simp only [ringP, Prod.mk.injEq]
      intro q
      exact h0 (by rw [q.1, q.2.1])
    rw [decide_eq_false h0] at hs
    clear h0
    go_wp2_with fail
    refine hs.mono ?_
    rintro e w1 ⟨rfl, hb1⟩
    have hB1 := hB0.trans (hb1.mono hB0.size)
    go_wp2_with fail
    go_ret
    exact ⟨by rw [HO.out]; rfl, hB1⟩
  rw [decide_eq_true h0] at hs
  obtain ⟨rfl, rfl⟩ := Prod.mk.inj h0
  clear h0
  go_wp2_with fail
  refine hs.mono ?_
  rintro e w1 ⟨rfl, hb1⟩
  have hB1 := hB0.trans (hb1.mono hB0.size)
  have y0 := (Eff.of_below (S := fun _ => False) hb1).blk x0 (fun h => h)
  have y1 := (Eff.of_below (S := fun _ => False) hb1).blk x1 (fun h => h)
  have HQ1 := hid (And.intro (And.intro (It2 HQ.out.1.1 hb1) HQ.out.1.2) (And.intro (And.intro (It2 HQ.out.2.1.1 hb1) HQ.out.2.1.2) (And.intro (HQ.out.2.2.1.on hb1) (HQ.out.2.2.2.on hb1))))
  clear HQ hs hb1 x0 x1 hB0
  have x0 := y0
  have x1 := y1
  have hB0 := hB1
  have HQ := HQ1
  clear y0 y1 hB1 HQ1
  have e00 : w1.cell? ⟨w.heap.size, 0, none⟩ = some (.int .i64 co) := x0.cell 0
  have e01 : w1.cell? ⟨w.heap.size, 1, none⟩ = some (.int .i64 fo) := x0.cell 1
  have e02 : w1.cell? ⟨w.heap.size, 2, none⟩ = some (.int .i64 ho) := x0.cell 2
  have e03 : w1.cell? ⟨w.heap.size, 3, none⟩ = some (.slice MA ms.length mc) := x0.cell 3
  have e04 : w1.cell? ⟨w.heap.size, 4, none⟩ = some (.slice EA es.length ec) := x0.cell 4
  have e10 : w1.cell? ⟨w.heap.size + 1, 0, none⟩ = some (.int .i64 co) := x1.cell 0
  have e11 : w1.cell? ⟨w.heap.size + 1, 1, none⟩ = some (.int .i64 fo) := x1.cell 1
  have e12 : w1.cell? ⟨w.heap.size + 1, 2, none⟩ = some (.int .i64 ho') := x1.cell 2
  have e13 : w1.cell? ⟨w.heap.size + 1, 3, none⟩ = some (.slice MA' ms'.length mc') := x1.cell 3
  have e14 : w1.cell? ⟨w.heap.size + 1, 4, none⟩ = some (.slice EA' es'.length ec') := x1.cell 4
  by_cases h2 : ho = ho'
  case neg =>
    have HO : Hid (R = false) := by
      rw [Hid, ← HR.out, decide_eq_false_iff_not]
      simp only [ringP, Prod.mk.injEq]
      intro q
      exact h2 q.2.2.1
    have q2 : (ho == ho') = false := by simpa using h2
    have q2' : (ho' == ho) = false := by simpa using fun e : ho' = ho => h2 e.symm
    clear h2
    go_wp2_with fail
    go_ret
    exact ⟨by rw [HO.out]; simp [q2, q2'], hB0⟩
  obtain rfl : ho = ho' := h2
  have hi := sameInts_any MA MA' mc mc' ms ms' w1 HQ.out.1.1 HQ.out.2.1.1 HQ.out.1.2 HQ.out.2.1.2
  by_cases h3 : ms = ms'
  case neg =>
    have HO : Hid (R = false) := by
      rw [Hid, ← HR.out, decide_eq_false_iff_not]
      simp only [ringP, Prod.mk.injEq]
      intro q
      exact h3 q.2.2.2.1
    rw [decide_eq_false h3] at hi
    clear h3
    go_wp2_with fail
    refine hi.mono ?_
    rintro e w2 ⟨rfl, hb2⟩
    have hB2 := hB0.trans (hb2.mono hB0.size)
    go_wp2_with fail
    go_ret
    exact ⟨by rw [HO.out]; rfl, hB2⟩
  rw [decide_eq_true h3] at hi
  subst h3
  go_wp2_with fail
  refine hi.mono ?_
  rintro e w2 ⟨rfl, hb2⟩
  have hB2 := hB0.trans (hb2.mono hB0.size)
  have z0 := (Eff.of_below (S := fun _ => False) hb2).blk x0 (fun h => h)
  have z1 := (Eff.of_below (S := fun _ => False) hb2).blk x1 (fun h => h)
  have hen := sameEnts_any EA EA' ec ec' es es' w2 (HQ.out.2.2.1.on hb2) (HQ.out.2.2.2.on hb2)
  have k0 : w2.cell? ⟨w.heap.size, 4, none⟩ = some (.slice EA es.length ec) := z0.cell 4
  have k1 : w2.cell? ⟨w.heap.size + 1, 4, none⟩ = some (.slice EA' es'.length ec') := z1.cell 4
  have HO : Hid (R = decide (es.map EntL.pl = es'.map EntL.pl)) := by
    rw [Hid, ← HR.out, Bool.eq_iff_iff, decide_eq_true_eq, decide_eq_true_eq]
    simp only [ringP, Prod.mk.injEq, true_and]
  generalize decide (es.map EntL.pl = es'.map EntL.pl) = D at *
  clear hi hb2 z0 z1 HQ x0 x1
  go_wp2_with fail
  refine hen.mono ?_
  rintro e w3 ⟨rfl, hb3⟩
  have hB3 := hB2.trans (hb3.mono hB2.size)
  go_wp2_with fail
  go_ret
  exact ⟨by rw [HO.out]; rfl, hB3⟩
set_option maxRecDepth 100000 in
set_option maxHeartbeats 1600000 in
theorem sameF_any (f g : FrL) (w : World) (hf : FrOk w f) (hg : FrOk w g) : Calls Tryd.prog 37 #[f.val, g.val] w (SaysB w (decide (f.pl = g.pl))) := by
  obtain ⟨k, fr, tt, li, se, ou, co, fo, ho, MA, ms, mc, EA, es, ec⟩ := f
  obtain ⟨k', fr', tt', li', se', ou', co', fo', ho', MA', ms', mc', EA', es', ec'⟩ := g
  simp only [FrL.val, FrL.pl]
  obtain ⟨w0, hw0⟩ : ∃ w0, w0 = (w.alloc (.cells #[.int .i64 k, .int .i64 fr, .int .i64 tt, .int .i64 li, .int .i64 se, .bool ou, .int .i64 co, .int .i64 fo, .int .i64 ho, .slice MA ms.length mc, .slice EA es.length ec] 64)).alloc (.cells #[.int .i64 k', .int .i64 fr', .int .i64 tt', .int .i64 li', .int .i64 se', .bool ou', .int .i64 co', .int .i64 fo', .int .i64 ho', .slice MA' ms'.length mc', .slice EA' es'.length ec'] 64) := ⟨_, rfl⟩
  have hB0 : Below w.heap.size w w0 := by rw [hw0]; exact ((Below.refl _ _).alloc (Nat.le_refl _) _).alloc (by simp) _
  have x0 : Blk w0 w.heap.size [.int .i64 k, .int .i64 fr, .int .i64 tt, .int .i64 li, .int .i64 se, .bool ou, .int .i64 co, .int .i64 fo, .int .i64 ho, .slice MA ms.length mc, .slice EA es.length ec] 64 := by rw [hw0]; exact (Blk.new w _ _).alloc _
  have x1 : Blk w0 (w.heap.size + 1) [.int .i64 k', .int .i64 fr', .int .i64 tt', .int .i64 li', .int .i64 se', .bool ou', .int .i64 co', .int .i64 fo', .int .i64 ho', .slice MA' ms'.length mc', .slice EA' es'.length ec'] 64 := by
    rw [hw0, show w.heap.size + 1 = (w.alloc (.cells #[.int .i64 k, .int .i64 fr, .int .i64 tt, .int .i64 li, .int .i64 se, .bool ou, .int .i64 co, .int .i64 fo, .int .i64 ho, .slice MA ms.length mc, .slice EA es.length ec] 64)).heap.size from by simp]
    exact Blk.new _ _ _
  have hf0 := hf.on hB0
  have hg0 := hg.on hB0
  have hr := sameRing_any co fo ho MA mc ms EA ec es co' fo' ho' MA' mc' ms' EA' ec' es' w0 ⟨hf0.mem, hf0.lens.1⟩ ⟨hg0.mem, hg0.lens.1⟩ hf0.ents hg0.ents
  clear hf hg hf0 hg0
  generalize hR : decide ((k, fr, tt, li, se, ou, co, fo, ho, ms, es.map EntL.pl) = (k', fr', tt', li', se', ou', co', fo', ho', ms', es'.map EntL.pl)) = R
  have HR := hid hR
  clear hR
  generalize hD : decide (ringP co fo ho ms es = ringP co' fo' ho' ms' es') = D at hr
  have HD := hid hD
  clear hD
  go_enter Tryd.func37, Tryd.ntmps37
  go_upto_region 1 with (fail)
  rw [← hw0]
  clear hw0
  have d00 : w0.cell? ⟨w.heap.size, 0, none⟩ = some (.int .i64 k) := x0.cell 0
  have d01 : w0.cell? ⟨w.heap.size, 1, none⟩ = some (.int .i64 fr) := x0.cell 1
  have d02 : w0.cell? ⟨w.heap.size, 2, none⟩ = some (.int .i64 tt) := x0.cell 2
  have d03 : w0.cell? ⟨w.heap.size, 3, none⟩ = some (.int .i64 li) := x0.cell 3
  have d04 : w0.cell? ⟨w.heap.size, 4, none⟩ = some (.int .i64 se) := x0.cell 4
  have d05 : w0.cell? ⟨w.heap.size, 5, none⟩ = some (.bool ou) := x0.cell 5
  have d06 : w0.cell? ⟨w.heap.size, 6, none⟩ = some (.int .i64 co) := x0.cell 6
  have d07 : w0.cell? ⟨w.heap.size, 7, none⟩ = some (.int .i64 fo) := x0.cell 7
  have d08 : w0.cell? ⟨w.heap.size, 8, none⟩ = some (.int .i64 ho) := x0.cell 8
  have d09 : w0.cell? ⟨w.heap.size, 9, none⟩ = some (.slice MA ms.length mc) := x0.cell 9
  have d010 : w0.cell? ⟨w.heap.size, 10, none⟩ = some (.slice EA es.length ec) := x0.cell 10
  have d10 : w0.cell? ⟨w.heap.size + 1, 0, none⟩ = some (.int .i64 k') := x1.cell 0
  have d11 : w0.cell? ⟨w.heap.size + 1, 1, none⟩ = some (.int .i64 fr') := x1.cell 1
  have d12 : w0.cell? ⟨w.heap.size + 1, 2, none⟩ = some (.int .i64 tt') := x1.cell 2
  have d13 : w0.cell? ⟨w.heap.size + 1, 3, none⟩ = some (.int .i64 li') := x1.cell 3
  have d14 : w0.cell? ⟨w.heap.size + 1, 4, none⟩ = some (.int .i64 se') := x1.cell 4
  have d15 : w0.cell? ⟨w.heap.size + 1, 5, none⟩ = some (.bool ou') := x1.cell 5
  have d16 : w0.cell? ⟨w.heap.size + 1, 6, none⟩ = some (.int .i64 co') := x1.cell 6
  have d17 : w0.cell? ⟨w.heap.size + 1, 7, none⟩ = some (.int .i64 fo') := x1.cell 7
  have d18 : w0.cell? ⟨w.heap.size + 1, 8, none⟩ = some (.int .i64 ho') := x1.cell 8
  have d19 : w0.cell? ⟨w.heap.size + 1, 9, none⟩ = some (.slice MA' ms'.length mc') := x1.cell 9
  have d110 : w0.cell? ⟨w.heap.size + 1, 10, none⟩ = some (.slice EA' es'.length ec') := x1.cell 10
  by_cases h0 : k = k'
  case neg =>
    have HO : Hid (R = false) := by
      rw [Hid, ← HR.out, decide_eq_false_iff_not]
      simp only [Prod.mk.injEq]
      intro q
      exact h0 q.1
    have q0 : (k == k') = false := by simpa using h0
    have q0' : (k' == k) = false := by simpa using fun e : k' = k => h0 e.symm
    clear h0
    go_wp2_with fail
    go_ret
    exact ⟨by rw [HO.out]; simp [q0, q0'], hB0⟩
  obtain rfl : k = k' := h0
  by_cases h1 : fr = fr'
  case neg =>
    have HO : Hid (R = false) := by
      rw [Hid, ← HR.out, decide_eq_false_iff_not]
      simp only [Prod.mk.injEq]
      intro q
      exact h1 q.2.1
    have q1 : (fr == fr') = false := by simpa using h1
    have q1' : (fr' == fr) = false := by simpa using fun e : fr' = fr => h1 e.symm
    clear h1
    go_wp2_with fail
    go_ret
    exact ⟨by rw [HO.out]; simp [q1, q1'], hB0⟩
  obtain rfl : fr = fr' := h1
  by_cases h2 : tt = tt'
  case neg =>
    have HO : Hid (R = false) := by
      rw [Hid, ← HR.out, decide_eq_false_iff_not]
      simp only [Prod.mk.injEq]
      intro q
      exact h2 q.2.2.1
    have q2 : (tt == tt') = false := by simpa using h2
    have q2' : (tt' == tt) = false := by simpa using fun e : tt' = tt => h2 e.symm
    clear h2
    go_wp2_with fail
    go_ret
    exact ⟨by rw [HO.out]; simp [q2, q2'], hB0⟩
  obtain rfl : tt = tt' := h2
  by_cases h3 : li = li'
  case neg =>
    have HO : Hid (R = false) := by
      rw [Hid, ← HR.out, decide_eq_false_iff_not]
      simp only [Prod.mk.injEq]
      intro q
      exact h3 q.2.2.2.1
    have q3 : (li == li') = false := by simpa using h3
    have q3' : (li' == li) = false := by simpa using fun e : li' = li => h3 e.symm
    clear h3
    go_wp2_with fail
    go_ret
    exact ⟨by rw [HO.out]; simp [q3, q3'], hB0⟩
  obtain rfl : li = li' := h3
  by_cases h4 : se = se'
  case neg =>
    have HO : Hid (R = false) := by
      rw [Hid, ← HR.out, decide_eq_false_iff_not]
      simp only [Prod.mk.injEq]
      intro q
      exact h4 q.2.2.2.2.1
    have q4 : (se == se') = false := by simpa using h4
    have q4' : (se' == se) = false := by simpa using fun e : se' = se => h4 e.symm
    clear h4
    go_wp2_with fail
    go_ret
    exact ⟨by rw [HO.out]; simp [q4, q4'], hB0⟩
  obtain rfl : se = se' := h4
  by_cases h5 : ou = ou'
  case neg =>
    have HO : Hid (R = false) := by
      rw [Hid, ← HR.out, decide_eq_false_iff_not]
      simp only [Prod.mk.injEq]
      intro q
      exact h5 q.2.2.2.2.2.1
    have q5 : (ou == ou') = false := by simpa using h5
    have q5' : (ou' == ou) = false := by simpa using fun e : ou' = ou => h5 e.symm
    clear h5
    go_wp2_with fail
    go_ret
    exact ⟨by rw [HO.out]; simp [q5, q5'], hB0⟩
  obtain rfl : ou = ou' := h5
  have HO : Hid (R = D) := by
    rw [Hid, ← HR.out, ← HD.out, Bool.eq_iff_iff, decide_eq_true_eq, decide_eq_true_eq]
    simp only [ringP, Prod.mk.injEq, true_and]
  go_wp2_with fail
  refine hr.mono ?_
  rintro e w2 ⟨rfl, hb2⟩
  have hB2 := hB0.trans (hb2.mono hB0.size)
  go_wp2_with fail
  go_ret
  exact ⟨by rw [HO.out]; simp, hB2⟩
set_option maxRecDepth 100000 in
set_option maxHeartbeats 1600000 in
theorem refSameF_any (f g : FrL) (w : World) (hf : FrOk w f) (hg : FrOk w g) : Calls Tryd.prog 38 #[f.val, g.val] w (SaysB w (decide (f.pl = g.pl))) := by
  obtain ⟨k, fr, tt, li, se, ou, co, fo, ho, MA, ms, mc, EA, es, ec⟩ := f
  obtain ⟨k', fr', tt', li', se', ou', co', fo', ho', MA', ms', mc', EA', es', ec'⟩ := g
  simp only [FrL.val, FrL.pl]
  obtain ⟨w0, hw0⟩ : ∃ w0, w0 = (w.alloc (.cells #[.int .i64 k, .int .i64 fr, .int .i64 tt, .int .i64 li, .int .i64 se, .bool ou, .int .i64 co, .int .i64 fo, .int .i64 ho, .slice MA ms.length mc, .slice EA es.length ec] 64)).alloc (.cells #[.int .i64 k', .int .i64 fr', .int .i64 tt', .int .i64 li', .int .i64 se', .bool ou', .int .i64 co', .int .i64 fo', .int .i64 ho', .slice MA' ms'.length mc', .slice EA' es'.length ec'] 64) := ⟨_, rfl⟩
  have hB0 : Below w.heap.size w w0 := by rw [hw0]; exact ((Below.refl _ _).alloc (Nat.le_refl _) _).alloc (by simp) _
  have x0 : Blk w0 w.heap.size [.int .i64 k, .int .i64 fr, .int .i64 tt, .int .i64 li, .int .i64 se, .bool ou, .int .i64 co, .int .i64 fo, .int .i64 ho, .slice MA ms.length mc, .slice EA es.length ec] 64 := by rw [hw0]; exact (Blk.new w _ _).alloc _
  have x1 : Blk w0 (w.heap.size + 1) [.int .i64 k', .int .i64 fr', .int .i64 tt', .int .i64 li', .int .i64 se', .bool ou', .int .i64 co', .int .i64 fo', .int .i64 ho', .slice MA' ms'.length mc', .slice EA' es'.length ec'] 64 := by
    rw [hw0, show w.heap.size + 1 = (w.alloc (.cells #[.int .i64 k, .int .i64 fr, .int .i64 tt, .int .i64 li, .int .i64 se, .bool ou, .int .i64 co, .int .i64 fo, .int .i64 ho, .slice MA ms.length mc, .slice EA es.length ec] 64)).heap.size from by simp]
    exact Blk.new _ _ _
  have hf0 := hf.on hB0
  have hg0 := hg.on hB0
  have hr := refSameRing_any co fo ho MA mc ms EA ec es co' fo' ho' MA' mc' ms' EA' ec' es' w0 ⟨hf0.mem, hf0.lens.1⟩ ⟨hg0.mem, hg0.lens.1⟩ hf0.ents hg0.ents
  clear hf hg hf0 hg0
  generalize hR : decide ((k, fr, tt, li, se, ou, co, fo, ho, ms, es.map EntL.pl) = (k', fr', tt', li', se', ou', co', fo', ho', ms', es'.map EntL.pl)) = R
  have HR := hid hR
  clear hR
  generalize hD : decide (ringP co fo ho ms es = ringP co' fo' ho' ms' es') = D at hr
  have HD := hid hD
  clear hD
  go_enter Tryd.func38, Tryd.ntmps38
  go_upto_region 1 with (fail)
  rw [← hw0]
  clear hw0
  have d00 : w0.cell? ⟨w.heap.size, 0, none⟩ = some (.int .i64 k) := x0.cell 0
  have d01 : w0.cell? ⟨w.heap.size, 1, none⟩ = some (.int .i64 fr) := x0.cell 1
  have d02 : w0.cell? ⟨w.heap.size, 2, none⟩ = some (.int .i64 tt) := x0.cell 2
  have d03 : w0.cell? ⟨w.heap.size, 3, none⟩ = some (.int .i64 li) := x0.cell 3
  have d04 : w0.cell? ⟨w.heap.size, 4, none⟩ = some (.int .i64 se) := x0.cell 4
  have d05 : w0.cell? ⟨w.heap.size, 5, none⟩ = some (.bool ou) := x0.cell 5
  have d06 : w0.cell? ⟨w.heap.size, 6, none⟩ = some (.int .i64 co) := x0.cell 6
  have d07 : w0.cell? ⟨w.heap.size, 7, none⟩ = some (.int .i64 fo) := x0.cell 7
  have d08 : w0.cell? ⟨w.heap.size, 8, none⟩ = some (.int .i64 ho) := x0.cell 8
  have d09 : w0.cell? ⟨w.heap.size, 9, none⟩ = some (.slice MA ms.length mc) := x0.cell 9
  have d010 : w0.cell? ⟨w.heap.size, 10, none⟩ = some (.slice EA es.length ec) := x0.cell 10
  have d10 : w0.cell? ⟨w.heap.size + 1, 0, none⟩ = some (.int .i64 k') := x1.cell 0
  have d11 : w0.cell? ⟨w.heap.size + 1, 1, none⟩ = some (.int .i64 fr') := x1.cell 1
  have d12 : w0.cell? ⟨w.heap.size + 1, 2, none⟩ = some (.int .i64 tt') := x1.cell 2
  have d13 : w0.cell? ⟨w.heap.size + 1, 3, none⟩ = some (.int .i64 li') := x1.cell 3
  have d14 : w0.cell? ⟨w.heap.size + 1, 4, none⟩ = some (.int .i64 se') := x1.cell 4
  have d15 : w0.cell? ⟨w.heap.size + 1, 5, none⟩ = some (.bool ou') := x1.cell 5
  have d16 : w0.cell? ⟨w.heap.size + 1, 6, none⟩ = some (.int .i64 co') := x1.cell 6
  have d17 : w0.cell? ⟨w.heap.size + 1, 7, none⟩ = some (.int .i64 fo') := x1.cell 7
  have d18 : w0.cell? ⟨w.heap.size + 1, 8, none⟩ = some (.int .i64 ho') := x1.cell 8
  have d19 : w0.cell? ⟨w.heap.size + 1, 9, none⟩ = some (.slice MA' ms'.length mc') := x1.cell 9
  have d110 : w0.cell? ⟨w.heap.size + 1, 10, none⟩ = some (.slice EA' es'.length ec') := x1.cell 10
  by_cases h0 : k = k'
  case neg =>
    have HO : Hid (R = false) := by
      rw [Hid, ← HR.out, decide_eq_false_iff_not]
      simp only [Prod.mk.injEq]
      intro q
      exact h0 q.1
    have q0 : (k == k') = false := by simpa using h0
    have q0' : (k' == k) = false := by simpa using fun e : k' = k => h0 e.symm
    clear h0
    go_wp2_with fail
    go_ret
    exact ⟨by rw [HO.out]; simp [q0, q0'], hB0⟩
  obtain rfl : k = k' := h0
  by_cases h1 : fr = fr'
  case neg =>
    have HO : Hid (R = false) := by
      rw [Hid, ← HR.out, decide_eq_false_iff_not]
      simp only [Prod.mk.injEq]
      intro q
      exact h1 q.2.1
    have q1 : (fr == fr') = false := by simpa using h1
    have q1' : (fr' == fr) = false := by simpa using fun e : fr' = fr => h1 e.symm
    clear h1
    go_wp2_with fail
    go_ret
    exact ⟨by rw [HO.out]; simp [q1, q1'], hB0⟩
  obtain rfl : fr = fr' := h1
  by_cases h2 : tt = tt'
  case neg =>
    have HO : Hid (R = false) := by
      rw [Hid, ← HR.out, decide_eq_false_iff_not]
      simp only [Prod.mk.injEq]
      intro q
      exact h2 q.2.2.1
    have q2 : (tt == tt') = false := by simpa using h2
    have q2' : (tt' == tt) = false := by simpa using fun e : tt' = tt => h2 e.symm
    clear h2
    go_wp2_with fail
    go_ret
    exact ⟨by rw [HO.out]; simp [q2, q2'], hB0⟩
  obtain rfl : tt = tt' := h2
  by_cases h3 : li = li'
  case neg =>
    have HO : Hid (R = false) := by
      rw [Hid, ← HR.out, decide_eq_false_iff_not]
      simp only [Prod.mk.injEq]
      intro q
      exact h3 q.2.2.2.1
    have q3 : (li == li') = false := by simpa using h3
    have q3' : (li' == li) = false := by simpa using fun e : li' = li => h3 e.symm
    clear h3
    go_wp2_with fail
    go_ret
    exact ⟨by rw [HO.out]; simp [q3, q3'], hB0⟩
  obtain rfl : li = li' := h3
  by_cases h4 : se = se'
  case neg =>
    have HO : Hid (R = false) := by
      rw [Hid, ← HR.out, decide_eq_false_iff_not]
      simp only [Prod.mk.injEq]
      intro q
      exact h4 q.2.2.2.2.1
    have q4 : (se == se') = false := by simpa using h4
    have q4' : (se' == se) = false := by simpa using fun e : se' = se => h4 e.symm
    clear h4
    go_wp2_with fail
    go_ret
    exact ⟨by rw [HO.out]; simp [q4, q4'], hB0⟩
  obtain rfl : se = se' := h4
  by_cases h5 : ou = ou'
  case neg =>
    have HO : Hid (R = false) := by
      rw [Hid, ← HR.out, decide_eq_false_iff_not]
      simp only [Prod.mk.injEq]
      intro q
      exact h5 q.2.2.2.2.2.1
    have q5 : (ou == ou') = false := by simpa using h5
    have q5' : (ou' == ou) = false := by simpa using fun e : ou' = ou => h5 e.symm
    clear h5
    go_wp2_with fail
    go_ret
    exact ⟨by rw [HO.out]; simp [q5, q5'], hB0⟩
  obtain rfl : ou = ou' := h5
  have HO : Hid (R = D) := by
    rw [Hid, ← HR.out, ← HD.out, Bool.eq_iff_iff, decide_eq_true_eq, decide_eq_true_eq]
    simp only [ringP, Prod.mk.injEq, true_and]
  go_wp2_with fail
  refine hr.mono ?_
  rintro e w2 ⟨rfl, hb2⟩
  have hB2 := hB0.trans (hb2.mono hB0.size)
  go_wp2_with fail
  go_ret
  exact ⟨by rw [HO.out]; simp, hB2⟩

def GivesRowE (w : World) (E : TypeId) (s n : Nat) (xs : List Value) (e : Ending) (w' : World) : Prop := ∃ v, e = .returned v ∧ w'.ownsRow w.heap.size E s v n xs ∧ Below w.heap.size w w'
theorem bids_one (xs : List (Int × Int)) : ∀ u ∈ xs.flatMap bidC, u.oneCell' = true := by
  intro u hu
  obtain ⟨b, _, h⟩ := List.mem_flatMap.1 hu
  simp only [bidC, List.mem_cons, List.not_mem_nil, or_false] at h
  rcases h with rfl | rfl <;> rfl
theorem ents_one (xs : List EntL) : ∀ u ∈ xs.flatMap EntL.cells, u.oneCell' = true := by
  intro u hu
  obtain ⟨b, _, h⟩ := List.mem_flatMap.1 hu
  simp only [EntL.cells, List.mem_cons, List.not_mem_nil, or_false] at h
  rcases h with rfl | rfl | rfl | rfl | rfl <;> rfl
set_option maxRecDepth 100000 in
set_option maxHeartbeats 800000 in
theorem cloneInts_any (A : Option Addr) (c : Nat) (xs : List Int) (w : World) (hs : Sl w A (xs.map (Value.int .i64))) (hl : xs.length ≤ 1000000) :
    Calls Tryd.prog 73 #[.slice A xs.length c] w (GivesRowE w 3 1 xs.length (xs.map (Value.int .i64))) := by
  obtain ⟨n, hn⟩ : ∃ n, n = xs.length := ⟨_, rfl⟩
  rw [← hn] at hl ⊢
  have HN := hid hn
  clear hn
  have hnil := fun w => Lib.run_eql_slice_nil (P := Tryd.prog) w 46 3 A n c 0 0 Tryd.underlying46
  cases A with
  | none =>
    have h0 : xs = [] := by
      rcases hs with h | ⟨b, o, h, _⟩
      · simpa using h
      · cases h
    subst h0
    have h0 : n = 0 := HN.out
    subst h0
    clear hs HN
    go_enter Tryd.func73, Tryd.ntmps73
    go_wp2_with fail
    go_ret
    exact ⟨_, rfl, World.ownsRow_nil _ _ _ _, Below.refl _ _⟩
  | some a =>
    have hnews : ∀ j u, (xs.map (Value.int .i64))[j]? = some u → (w.alloc (.cells #[] 3)).cell? (a.add j) = some u := by
      intro j u hu
      have hlt : j < (xs.map (Value.int .i64)).length := (List.getElem?_eq_some_iff.1 hu).1
      obtain ⟨b, o, hA, hb, hc⟩ := hs.at (by omega)
      cases hA
      have e1 : (⟨b, o, none⟩ : Addr).add j = ⟨b, o + j, none⟩ := add_at b o j
      rw [e1, World.cell?_alloc_lt w _ _ hb, hc j hlt, hu]
    have hown : (w.alloc (.cells #[] 3)).ownsRow w.heap.size 3 1 (.slice (some ⟨w.heap.size, 0, none⟩) 0 0) 0 [] := World.ownsRow_made w #[] 0 (Nat.le_refl _) (Nat.zero_le _) rfl
    obtain ⟨i, hi, hz, hsz, hby⟩ := info_parts rowInts15.info
    have h1 : ∀ u ∈ xs.map (Value.int .i64), u.oneCell' = true := ints_oneCell .i64 xs
    have HH := hid (And.intro hnews (And.intro hown h1))
    have HI := hid (And.intro hi (And.intro hz (And.intro hsz hby)))
    have hm : 0 + n ≤ maxLen := by unfold maxLen; omega
    have hby2 : (0 + n) * 8 ≤ 140737488355328 := by omega
    have HM := hid (And.intro hm hby2)
    clear hnews hown hi hz hsz hby hs h1 hm hby2
    go_enter Tryd.func73, Tryd.ntmps73
    go_wp2_with (at_builtin; refine wpList_append_own _ rfl _ _ 46 rfl w.heap.size 3 i (.int .i64 0) 1 8 Tryd.underlying46 HI.out.1 HI.out.2.1 HI.out.2.2.1 HI.out.2.2.2 rfl (by decide) _ 0 [] rfl HH.out.2.1 a n c _ rfl (by rw [List.length_map, Nat.mul_one]; exact HN.out.symm) HH.out.1 HH.out.2.2 HM.out.1 HM.out.2 (by simp) ?_; intro v w1 hown1 hg _)
    go_ret
    refine ⟨_, rfl, by simpa using hown1, ?_⟩
    exact (((Eff.refl (fun k => k = w.heap.size) w).alloc _).grown hg (fun k hk _ => (Option.some.inj hk).symm)).below (Below.refl _ _) (Nat.le_refl _) (fun i hi h => by omega)
set_option maxRecDepth 100000 in
set_option maxHeartbeats 800000 in
theorem cloneBids_any (A : Option Addr) (c : Nat) (xs : List (Int × Int)) (w : World) (hs : Sl w A (xs.flatMap bidC)) (hl : xs.length ≤ 1000000) :
    Calls Tryd.prog 75 #[.slice A xs.length c] w (GivesRowE w 59 2 xs.length (xs.flatMap bidC)) := by
  obtain ⟨n, hn⟩ : ∃ n, n = xs.length := ⟨_, rfl⟩
  rw [← hn] at hl ⊢
  have HN := hid hn
  clear hn
  have hnil := fun w => Lib.run_eql_slice_nil (P := Tryd.prog) w 60 59 A n c 0 0 Tryd.underlying60
  cases A with
  | none =>
    have h0 : xs = [] := by
      rcases hs with h | ⟨b, o, h, _⟩
      · have h2 := congrArg List.length h; rw [flat_length bidC_len] at h2; rw [List.length_nil] at h2; exact List.eq_nil_of_length_eq_zero (by omega)
      · cases h
    subst h0
    have h0 : n = 0 := HN.out
    subst h0
    clear hs HN
    go_enter Tryd.func75, Tryd.ntmps75
    go_wp2_with fail
    go_ret
    exact ⟨_, rfl, World.ownsRow_nil _ _ _ _, Below.refl _ _⟩
  | some a =>
    have hnews : ∀ j u, (xs.flatMap bidC)[j]? = some u → (w.alloc (.cells #[] 59)).cell? (a.add j) = some u := by
      intro j u hu
      have hlt : j < (xs.flatMap bidC).length := (List.getElem?_eq_some_iff.1 hu).1
      obtain ⟨b, o, hA, hb, hc⟩ := hs.at (by omega)
      cases hA
      have e1 : (⟨b, o, none⟩ : Addr).add j = ⟨b, o + j, none⟩ := add_at b o j
      rw [e1, World.cell?_alloc_lt w _ _ hb, hc j hlt, hu]
    have hown : (w.alloc (.cells #[] 59)).ownsRow w.heap.size 59 2 (.slice (some ⟨w.heap.size, 0, none⟩) 0 0) 0 [] := World.ownsRow_made w #[] 0 (Nat.le_refl _) (Nat.zero_le _) rfl
    obtain ⟨i, hi, hz, hsz, hby⟩ := info_parts rowBids.info
    have h1 : ∀ u ∈ xs.flatMap bidC, u.oneCell' = true := bids_one xs
    have HH := hid (And.intro hnews (And.intro hown h1))
    have HI := hid (And.intro hi (And.intro hz (And.intro hsz hby)))
    have hm : 0 + n ≤ maxLen := by unfold maxLen; omega
    have hby2 : (0 + n) * 16 ≤ 140737488355328 := by omega
    have HM := hid (And.intro hm hby2)
    clear hnews hown hi hz hsz hby hs h1 hm hby2
    go_enter Tryd.func75, Tryd.ntmps75
    go_wp2_with (at_builtin; refine wpList_append_own _ rfl _ _ 60 rfl w.heap.size 59 i (.agg #[.int .i64 0, .int .i64 0]) 2 16 Tryd.underlying60 HI.out.1 HI.out.2.1 HI.out.2.2.1 HI.out.2.2.2 rfl (by decide) _ 0 [] rfl HH.out.2.1 a n c _ rfl (by rw [flat_length bidC_len]; rw [HN.out]) HH.out.1 HH.out.2.2 HM.out.1 HM.out.2 (by simp) ?_; intro v w1 hown1 hg _)
    go_ret
    refine ⟨_, rfl, by simpa using hown1, ?_⟩
    exact (((Eff.refl (fun k => k = w.heap.size) w).alloc _).grown hg (fun k hk _ => (Option.some.inj hk).symm)).below (Below.refl _ _) (Nat.le_refl _) (fun i hi h => by omega)
set_option maxRecDepth 100000 in
set_option maxHeartbeats 800000 in
theorem cloneEnts_any (A : Option Addr) (c : Nat) (xs : List EntL) (w : World) (hs : Sl w A (xs.flatMap EntL.cells)) (hl : xs.length ≤ 1000000) :
    Calls Tryd.prog 74 #[.slice A xs.length c] w (GivesRowE w 62 5 xs.length (xs.flatMap EntL.cells)) := by
  obtain ⟨n, hn⟩ : ∃ n, n = xs.length := ⟨_, rfl⟩
  rw [← hn] at hl ⊢
  have HN := hid hn
  clear hn
  have hnil := fun w => Lib.run_eql_slice_nil (P := Tryd.prog) w 51 62 A n c 0 0 Tryd.underlying51
  cases A with
  | none =>
    have h0 : xs = [] := by
      rcases hs with h | ⟨b, o, h, _⟩
      · have h2 := congrArg List.length h; rw [flat_length EntL.len] at h2; rw [List.length_nil] at h2; exact List.eq_nil_of_length_eq_zero (by omega)
      · cases h
    subst h0
    have h0 : n = 0 := HN.out
    subst h0
    clear hs HN
    go_enter Tryd.func74, Tryd.ntmps74
    go_wp2_with fail
    go_ret
    exact ⟨_, rfl, World.ownsRow_nil _ _ _ _, Below.refl _ _⟩
  | some a =>
    have hnews : ∀ j u, (xs.flatMap EntL.cells)[j]? = some u → (w.alloc (.cells #[] 62)).cell? (a.add j) = some u := by
      intro j u hu
      have hlt : j < (xs.flatMap EntL.cells).length := (List.getElem?_eq_some_iff.1 hu).1
      obtain ⟨b, o, hA, hb, hc⟩ := hs.at (by omega)
      cases hA
      have e1 : (⟨b, o, none⟩ : Addr).add j = ⟨b, o + j, none⟩ := add_at b o j
      rw [e1, World.cell?_alloc_lt w _ _ hb, hc j hlt, hu]
    have hown : (w.alloc (.cells #[] 62)).ownsRow w.heap.size 62 5 (.slice (some ⟨w.heap.size, 0, none⟩) 0 0) 0 [] := World.ownsRow_made w #[] 0 (Nat.le_refl _) (Nat.zero_le _) rfl
    obtain ⟨i, hi, hz, hsz, hby⟩ := info_parts rowEnts.info
    have h1 : ∀ u ∈ xs.flatMap EntL.cells, u.oneCell' = true := ents_one xs
    have HH := hid (And.intro hnews (And.intro hown h1))
    have HI := hid (And.intro hi (And.intro hz (And.intro hsz hby)))
    have hm : 0 + n ≤ maxLen := by unfold maxLen; omega
    have hby2 : (0 + n) * 56 ≤ 140737488355328 := by omega
    have HM := hid (And.intro hm hby2)
    clear hnews hown hi hz hsz hby hs h1 hm hby2
    go_enter Tryd.func74, Tryd.ntmps74
    go_wp2_with (at_builtin; refine wpList_append_own _ rfl _ _ 51 rfl w.heap.size 62 i (.agg #[.int .i64 0, .int .i64 0, .int .i64 0, .slice none 0 0, .int .i64 0]) 5 56 Tryd.underlying51 HI.out.1 HI.out.2.1 HI.out.2.2.1 HI.out.2.2.2 rfl (by decide) _ 0 [] rfl HH.out.2.1 a n c _ rfl (by rw [flat_length EntL.len]; rw [HN.out]) HH.out.1 HH.out.2.2 HM.out.1 HM.out.2 (by simp) ?_; intro v w1 hown1 hg _)
    go_ret
    refine ⟨_, rfl, by simpa using hown1, ?_⟩
    exact (((Eff.refl (fun k => k = w.heap.size) w).alloc _).grown hg (fun k hk _ => (Option.some.inj hk).symm)).below (Below.refl _ _) (Nat.le_refl _) (fun i hi h => by omega)

theorem ring_info : (Tryd.prog.info? 53).map (·.size) = some 5 := by kernel_rfl
theorem frame_info : (Tryd.prog.info? 64).map (·.size) = some 11 := by kernel_rfl
/-- A ring whose lists are its own, deep down. -/
structure RingOwn (base : Nat) (w : World) (MA : Option Addr) (ms : List Int) (mc : Nat) (EA : Option Addr) (es : List EntL) (ec : Nat) : Prop where
  mem : w.ownsRow base 3 1 (.slice MA ms.length mc) ms.length (ms.map (Value.int .i64))
  ent : w.ownsRow base 62 5 (.slice EA es.length ec) es.length (es.flatMap EntL.cells)
  bid : ∀ e ∈ es, w.ownsRow base 59 2 (.slice e.A e.bids.length e.c) e.bids.length (e.bids.flatMap bidC)
  sepM : ∀ a, MA = some a → (∀ b, EA = some b → b.block ≠ a.block) ∧ ∀ e ∈ es, ∀ b, e.A = some b → b.block ≠ a.block
  sepE : ∀ a, EA = some a → ∀ e ∈ es, ∀ b, e.A = some b → b.block ≠ a.block
  sepB : ∀ (i j : Nat) (x y : EntL) (a b : Addr), i < j → es[i]? = some x → es[j]? = some y → x.A = some a → y.A = some b → a.block ≠ b.block
theorem sl_own {w : World} {B : Nat} {E : TypeId} {s n c : Nat} {A : Option Addr} {xs : List Value} (h : w.ownsRow B E s (.slice A n c) n xs) : Sl w A xs := by
  obtain ⟨A', c', e, _, _, hs⟩ := Sl.row h
  injection e with e1
  rw [e1]
  exact hs
def GivesRing (w : World) (co fo ho : Int) (ms : List Int) (es : List EntL) (e : Ending) (w' : World) : Prop := ∃ (MA : Option Addr) (mc : Nat) (EA : Option Addr) (es' : List EntL) (ec : Nat),
  e = .returned (.agg (ringV co fo ho MA ms.length mc EA es.length ec)) ∧ es'.map EntL.pl = es.map EntL.pl ∧ RingOwn w.heap.size w' MA ms mc EA es' ec ∧ Below w.heap.size w w'
def CloRel (W w0 : World) (v : Value) (n : Nat) (es : List EntL) (i : Value) (wr : World) : Prop := ∃ (k : Nat) (es' : List EntL), k ≤ n ∧ i = .int .i64 k ∧ es'.length = n ∧ es'.map EntL.pl = es.map EntL.pl ∧ (∀ j, k ≤ j → es'[j]? = es[j]?) ∧
  wr.ownsRow W.heap.size 62 5 v n (es'.flatMap EntL.cells) ∧ (∀ (j : Nat) (e : EntL), j < k → es'[j]? = some e → wr.ownsRow w0.heap.size 59 2 (.slice e.A e.bids.length e.c) e.bids.length (e.bids.flatMap bidC)) ∧
  (∀ (i j : Nat) (x y : EntL) (a b : Addr), i < j → j < k → es'[i]? = some x → es'[j]? = some y → x.A = some a → y.A = some b → a.block < b.block) ∧ Eff (fun q => v.ownBlock = some q) w0 wr ∧ Below W.heap.size W wr
attribute [irreducible] CloRel
set_option maxRecDepth 100000 in
set_option maxHeartbeats 4000000 in
theorem cloneRing_any (co fo ho : Int) (MA : Option Addr) (mc : Nat) (ms : List Int) (EA : Option Addr) (ec : Nat) (es : List EntL) (w : World) (hm : Sl w MA (ms.map (Value.int .i64))) (hml : ms.length ≤ 1000000) (he : EntsAt w EA es) (hel : es.length ≤ 1000000) (hbl : ∀ e ∈ es, e.bids.length ≤ 1000000) :
    Calls Tryd.prog 56 #[.agg (ringV co fo ho MA ms.length mc EA es.length ec)] w (GivesRing w co fo ho ms es) := by
  obtain ⟨w2, hw2⟩ : ∃ w2, w2 = (w.alloc (.cells (ringV co fo ho MA ms.length mc EA es.length ec) 53)).alloc (.cells #[.int .i64 0, .int .i64 0, .int .i64 0, .slice none 0 0, .slice none 0 0] 53) := ⟨_, rfl⟩
  have hB2 : Below w.heap.size w w2 := by rw [hw2]; exact ((Below.refl _ _).alloc (Nat.le_refl _) _).alloc (by simp) _
  have x0 : Blk w2 w.heap.size (ringL co fo ho MA ms.length mc EA es.length ec) 53 := by rw [hw2]; exact (Blk.new w _ _).alloc _
  have x1 : Blk w2 (w.heap.size + 1) [.int .i64 0, .int .i64 0, .int .i64 0, .slice none 0 0, .slice none 0 0] 53 := by
    rw [hw2, show w.heap.size + 1 = (w.alloc (.cells (ringV co fo ho MA ms.length mc EA es.length ec) 53)).heap.size from by simp]
    exact Blk.new _ _ _
  have hc1 := cloneInts_any MA mc ms w2 (It2 hm hB2) hml
  have HE := hid he
  clear hm he
  go_enter Tryd.func56, Tryd.ntmps56
  go_upto_region 1 with (fail)
  rw [← hw2]
  clear hw2
  have r3 : w2.cell? ⟨w.heap.size, 3, none⟩ = some (.slice MA ms.length mc) := x0.cell 3
  go_wp2_with fail
  refine hc1.mono ?_
  rintro e w3 ⟨v3, rfl, hown3, hb3⟩
  obtain ⟨M3, c3, rfl, _, _, _⟩ := Sl.row hown3
  have y0 := (Eff.of_below (S := fun _ => False) hb3).blk x0 (fun h => h)
  have y1 := (Eff.of_below (S := fun _ => False) hb3).blk x1 (fun h => h)
  have hB3 := hB2.trans (hb3.mono hB2.size)
  have hf3 := y0.frozen 3
  have r3 : w3.cell? ⟨w.heap.size, 3, none⟩ = some (.slice MA ms.length mc) := y0.cell 3
  have hl2 := x1.lt
  have hM3 : ∀ q, (Value.slice M3 ms.length c3).ownBlock = some q → w.heap.size + 2 ≤ q ∧ q < w3.heap.size := fun q hq => by
    have := hown3.lt q hq
    omega
  have z0 := y0.set 3 (.slice M3 ms.length c3)
  have z1 := y1.set_ne (b' := w.heap.size) (by omega) 3 none (.slice M3 ms.length c3)
  have heff : Eff (· = w.heap.size) w3 (w3.setCell ⟨w.heap.size, 3, none⟩ (.slice M3 ms.length c3)) := (Eff.one _ w3).set 3 _
  have hown4 := heff.row hown3 (fun k hk h => by have := (hown3.lt k hk).1; have := hB2.size; omega)
  have hB4 := hB3.setCell (p := ⟨w.heap.size, 3, none⟩) (Nat.le_refl _) (.slice M3 ms.length c3)
  have hsz34 : w3.heap.size ≤ (w3.setCell ⟨w.heap.size, 3, none⟩ (.slice M3 ms.length c3)).heap.size := by simp
  have HM3 := hid (And.intro hM3 (And.intro hown4 hB4))
  clear hown3 hown4 hB3 hB4 hc1 hb3 x0 x1 y0 y1 hM3 heff hB2
  go_upto_region 2 with (fail)
  generalize w3.setCell ⟨w.heap.size, 3, none⟩ (.slice M3 ms.length c3) = w4 at *
  clear hf3 r3
  have hs34 : w3.heap.size ≤ w4.heap.size := hsz34
  have r4 : w4.cell? ⟨w.heap.size, 4, none⟩ = some (.slice EA es.length ec) := z0.cell 4
  have he4 := HE.out.on HM3.out.2.2
  have hc2 := cloneEnts_any EA ec es w4 he4.ent hel
  go_wp2_with fail
  refine hc2.mono ?_
  rintro e w5 ⟨v5, rfl, hown5, hb5⟩
  obtain ⟨E5, c5, rfl, _, hc5m, _⟩ := Sl.row hown5
  have y0 := (Eff.of_below (S := fun _ => False) hb5).blk z0 (fun h => h)
  have y1 := (Eff.of_below (S := fun _ => False) hb5).blk z1 (fun h => h)
  have hB5 := HM3.out.2.2.trans (hb5.mono HM3.out.2.2.size)
  have hown5m := (Eff.of_below (S := fun _ => False) hb5).row HM3.out.2.1 (fun _ _ h => h)
  have hf4 := y0.frozen 4
  have r4 : w5.cell? ⟨w.heap.size, 4, none⟩ = some (.slice EA es.length ec) := y0.cell 4
  have hs45 : w4.heap.size ≤ w5.heap.size := hb5.size
  have hE5 : ∀ q, (Value.slice E5 es.length c5).ownBlock = some q → w4.heap.size ≤ q ∧ q < w5.heap.size := fun q hq => hown5.lt q hq
  have z0' := y0.set 4 (.slice E5 es.length c5)
  have z1' := y1.set_ne (b' := w.heap.size) (by omega) 4 none (.slice E5 es.length c5)
  have heff : Eff (· = w.heap.size) w5 (w5.setCell ⟨w.heap.size, 4, none⟩ (.slice E5 es.length c5)) := (Eff.one _ w5).set 4 _
  have hl4 := z1.lt
  have hown6 := heff.row hown5 (fun k hk h => by have := (hown5.lt k hk).1; omega)
  have hown6m := heff.row hown5m (fun k hk h => by have := (HM3.out.1 k hk).1; omega)
  have hB6 := hB5.setCell (p := ⟨w.heap.size, 4, none⟩) (Nat.le_refl _) (.slice E5 es.length c5)
  have hsz56 : w5.heap.size = (w5.setCell ⟨w.heap.size, 4, none⟩ (.slice E5 es.length c5)).heap.size := by simp
  have HM6 := hid (And.intro hE5 (And.intro hown6 (And.intro hown6m hB6)))
  clear hown5 hown6 hown6m hown5m hB5 hB6 hc2 hb5 y0 y1 z0 z1 hE5 heff he4
  go_upto_region 3 with (fail)
  generalize w5.setCell ⟨w.heap.size, 4, none⟩ (.slice E5 es.length c5) = w6 at *
  clear hf4 r4
  have r4 : w6.cell? ⟨w.heap.size, 4, none⟩ = some (.slice E5 es.length c5) := z0'.cell 4
  go_wp2_with fail
  clear r4
  go_loopw [15] (fun i wr => CloRel w w6 (.slice E5 es.length c5) es.length es i wr) (fun i _ => es.length - (intOf i).toNat)
  case atStart =>
    unfold CloRel
    exact ⟨0, es, Nat.zero_le _, rfl, rfl, rfl, fun _ _ => rfl, row_base HM6.out.2.1 (fun q hq => by have := (HM6.out.1 q hq).1; have := HM3.out.2.2.size; omega), fun j e h => by omega, fun i j x y a b h1 h2 => by omega, Eff.refl _ _, HM6.out.2.2.2⟩
  case round =>
  unfold CloRel at hrel
  obtain ⟨k, es', hk, rfl, hlen, hpl, hrest, hrow, hbids, hsep, heff, hB⟩ := hrel
  have htr : ¬ (Value.slice E5 es.length c5).ownBlock = some w.heap.size := fun h => by have := (HM6.out.1 _ h).1; omega
  have htr1 : ¬ (Value.slice E5 es.length c5).ownBlock = some (w.heap.size + 1) := fun h => by have := (HM6.out.1 _ h).1; omega
  have y0 := heff.blk z0' htr
  have y1 := heff.blk z1' htr1
  by_cases hlt : k < es.length
  case pos =>
    obtain ⟨g, cap, hv, hg1, hg2⟩ := hrow.form (by omega)
    injection hv with hv1 hv2 hv3
    subst hv1 hv3
    have r4 : wr.cell? ⟨w.heap.size, 4, none⟩ = some (.slice (some ⟨g, 0, none⟩) es.length c5) := y0.cell 4
    obtain ⟨e, he⟩ : ∃ e, es[k]? = some e := ⟨es[k], List.getElem?_eq_getElem hlt⟩
    have he' : es'[k]? = some e := (hrest k (Nat.le_refl _)).trans he
    have hem := List.mem_of_getElem? he
    have hgn : g ≠ w.heap.size := fun h => htr (by rw [← h]; rfl)
    obtain ⟨fl, di, ge, aw, bs, A, c⟩ := e
    have d3 : wr.cell? ⟨g, k * 5 + 3, none⟩ = some (.slice A bs.length c) := (hrow.cellAt (k * 5 + 3) (by omega)).trans (by
      have := flat_get EntL.len es' [] k 3 _ he' (by omega)
      rw [List.append_nil] at this
      exact this)
    have hcb := cloneBids_any A c bs wr.drew (EntL.on (HE.out.bid _ hem).1 hB.drew) (hbl _ hem)
    have hki : (k : Int) < es.length := by omega
    have HR := hid (And.intro hlen (And.intro hpl (And.intro hrest (And.intro hrow (And.intro hbids (And.intro hsep (And.intro heff (And.intro hB (And.intro he' (And.intro hg1 hg2))))))))))
    clear hlen hpl hrest hrow hbids hsep heff hB he' hg1 hg2 y0 y1 htr htr1 he hem
    go_wp2_with fail
    refine wp_region_held_drew (S := fun w' => w'.cell? ⟨w.heap.size, 4, none⟩ = some (.slice (some ⟨g, 0, none⟩) es.length c5)) (by kernel_rfl) ?_ (fun hHeld => ?_)
    · (try dsimp only); (first | exact r4 | exact r4' | exact r4s)
    refine held_take 0 ?_ rfl (by kernel_rfl) (by kernel_rfl) (by kernel_rfl) (fun _ _ _ h => h) (by rfl) ?_ hHeld ?_
    rotate_left
    · (intro w hSw; (try dsimp only at hSw); go_simp; try with_reducible rfl)
    try simp only [Act.put, List.setIfInBounds_toArray, List.set_cons_zero, List.set_cons_succ]
    refine held_take 1 ?_ rfl (by kernel_rfl) (by kernel_rfl) (by kernel_rfl) (fun _ _ _ h => h) (by rfl) ?_ hHeld ?_
    rotate_left
    · (intro w hSw; (try dsimp only at hSw); go_simp; try with_reducible rfl)
    try simp only [Act.put, List.setIfInBounds_toArray, List.set_cons_zero, List.set_cons_succ]
    refine held_take 2 ?_ rfl (by kernel_rfl) (by kernel_rfl) (by kernel_rfl) (fun _ _ _ h => h) (by rfl) ?_ hHeld ?_
    rotate_left
    · (intro w hSw; (try dsimp only at hSw); go_simp; try with_reducible rfl)
    try simp only [Act.put, List.setIfInBounds_toArray, List.set_cons_zero, List.set_cons_succ]
    refine held_take 3 ?_ rfl (by kernel_rfl) (by kernel_rfl) (by kernel_rfl) (fun _ _ _ h => h) (by rfl) ?_ hHeld ?_
    rotate_left
    · (intro w hSw; (try dsimp only at hSw); go_simp; try with_reducible rfl)
    try simp only [Act.put, List.setIfInBounds_toArray, List.set_cons_zero, List.set_cons_succ]
    refine held_take 4 ?_ rfl (by kernel_rfl) (by kernel_rfl) (by kernel_rfl) (fun _ _ _ h => h) (by rfl) ?_ hHeld ?_
    rotate_left
    · (intro w hSw; (try dsimp only at hSw); go_simp; try with_reducible rfl)
    try simp only [Act.put, List.setIfInBounds_toArray, List.set_cons_zero, List.set_cons_succ]
    refine held_take 5 ?_ rfl (by kernel_rfl) (by kernel_rfl) (by kernel_rfl) (fun _ _ _ h => h) (by rfl) ?_ hHeld ?_
    rotate_left
    · (intro w hSw; (try dsimp only at hSw); go_simp; try with_reducible rfl)
    try simp only [Act.put, List.setIfInBounds_toArray, List.set_cons_zero, List.set_cons_succ]
    refine held_take 6 ?_ rfl (by kernel_rfl) (by kernel_rfl) (by kernel_rfl) (fun _ _ _ h => h) (by rfl) ?_ hHeld ?_
    rotate_left
    · (intro w hSw; (try dsimp only at hSw); go_simp; try with_reducible rfl)
    try simp only [Act.put, List.setIfInBounds_toArray, List.set_cons_zero, List.set_cons_succ]
    refine held_take 7 ?_ rfl (by kernel_rfl) (by kernel_rfl) (by kernel_rfl) (fun _ _ _ h => h) (by rfl) ?_ hHeld ?_
    rotate_left
    · (intro w hSw; (try dsimp only at hSw); go_simp; try with_reducible rfl)
    try simp only [Act.put, List.setIfInBounds_toArray, List.set_cons_zero, List.set_cons_succ]
    refine held_one 8 rfl (by kernel_rfl) (by rfl) (fun K hK => ?_)
    go_simp
    have h08 := d3
    refine hK.out _ _ ?_ (fun hHeld2 => ?_)
    · (try dsimp only); (first | exact r4 | exact r4' | exact r4s)
    clear hK K hHeld
    have hHeld := hHeld2
    clear hHeld2
    try simp only [Act.put, List.setIfInBounds_toArray, List.set_cons_zero, List.set_cons_succ]
    refine held_one 9 rfl (by kernel_rfl) (by rfl) (fun K hK => ?_)
    go_simp
    refine hcb.mono ?_
    rintro e w7 ⟨v7, rfl, hown7, hb7⟩
    obtain ⟨A7, c7, rfl, _, _, _⟩ := Sl.row hown7
    have r4' := (hb7.cell (lt_of_cell r4)).trans r4
    have d3' := (hb7.cell (lt_of_cell d3)).trans d3
    have hf7 : w7.frozen? ⟨g, k * 5 + 3, none⟩ = false := ((Eff.of_below (S := fun _ => False) hb7).row HR.out.2.2.2.1 (fun _ _ h => h)).frozenAt _
    have r4s : (w7.setCell ⟨g, k * 5 + 3, none⟩ (.slice A7 bs.length c7)).cell? ⟨w.heap.size, 4, none⟩ = some (.slice (some ⟨g, 0, none⟩) es.length c5) := (((Eff.one g w7).set (k * 5 + 3) (.slice A7 bs.length c7)).cell (b := w.heap.size) (o := 4) (lt_of_cell r4') (fun h => hgn h.symm)).trans r4'
    refine hK.out _ _ ?_ (fun hHeld2 => ?_)
    · (try dsimp only); (first | exact r4 | exact r4' | exact r4s)
    clear hK K hHeld
    have hHeld := hHeld2
    clear hHeld2
    try simp only [Act.put, List.setIfInBounds_toArray, List.set_cons_zero, List.set_cons_succ]
    refine held_take 10 ?_ rfl (by kernel_rfl) (by kernel_rfl) (by kernel_rfl) (fun _ _ _ h => h) (by rfl) ?_ hHeld ?_
    rotate_left
    · (intro w hSw; (try dsimp only at hSw); go_simp; try with_reducible rfl)
    try simp only [Act.put, List.setIfInBounds_toArray, List.set_cons_zero, List.set_cons_succ]
    refine held_take 11 ?_ rfl (by kernel_rfl) (by kernel_rfl) (by kernel_rfl) (fun _ _ _ h => h) (by rfl) ?_ hHeld ?_
    rotate_left
    · (intro w hSw; (try dsimp only at hSw); go_simp; try with_reducible rfl)
    try simp only [Act.put, List.setIfInBounds_toArray, List.set_cons_zero, List.set_cons_succ]
    refine held_one 12 rfl (by kernel_rfl) (by rfl) (fun K hK => ?_)
    go_simp
    have h00 := hf7
    refine hK.out _ _ ?_ (fun hHeld2 => ?_)
    · (try dsimp only); (first | exact r4 | exact r4' | exact r4s)
    clear hK K hHeld
    have hHeld := hHeld2
    clear hHeld2
    try simp only [Act.put, List.setIfInBounds_toArray, List.set_cons_zero, List.set_cons_succ]
    refine wpAnyH_done (by kernel_rfl) ?_ _
    clear hHeld
    have HV := hid (And.intro hown7 hb7)
    clear hown7 hb7 hcb r4 r4' r4s d3 d3' hf7
    go_wp2_with fail
    go_roundw
    case rel =>
      unfold CloRel
      obtain ⟨hlen, hpl, hrest, hrow, hbids, hsep, heff, hB, he', hg1, hg2⟩ := HR.out
      obtain ⟨hown7, hb7⟩ := HV.out
      have hb7' : Below wr.heap.size wr w7 := (Below.refl wr.heap.size wr).drew.trans hb7
      have he8 : Eff (· = g) w7 (w7.setCell ⟨g, k * 5 + 3, none⟩ (.slice A7 bs.length c7)) := (Eff.one g w7).set _ _
      have hk5 : k < es'.length := by omega
      have hfs := flat_set EntL.len es' [] k 3 _ ⟨fl, di, ge, aw, bs, A7, c7⟩ (.slice A7 bs.length c7) he' (by omega) rfl
      rw [List.append_nil, List.append_nil] at hfs
      have hgE := HM6.out.1 g rfl
      have hH0 : w6.heap.size ≤ wr.heap.size := heff.size
      have hnew : ∀ q, (Value.slice A7 bs.length c7).ownBlock = some q → wr.heap.size ≤ q ∧ q < w7.heap.size := fun q hq => hown7.lt q hq
      refine ⟨k + 1, es'.set k ⟨fl, di, ge, aw, bs, A7, c7⟩, by omega, by go_num, by rw [List.length_set]; exact hlen, ?_, fun j hj => ?_, ?_, fun j e hj hje => ?_, fun i j x y a b hij hj hx hy ha hb => ?_, ?_, ?_⟩
      · rw [← hpl]
        apply List.ext_getElem?
        intro i
        rw [List.getElem?_map, List.getElem?_map, List.getElem?_set]
        by_cases hik : k = i
        · subst hik
          rw [if_pos rfl, if_pos hk5, he']
          rfl
        · rw [if_neg hik]
      · rw [List.getElem?_set_ne (by omega)]
        exact hrest j (by omega)
      · rw [← hfs]
        exact (((Eff.of_below (S := fun _ => False) hb7').row hrow (fun _ _ h => h)).stored _ _).1
      · by_cases hjk : j = k
        · subst hjk
          rw [List.getElem?_set_self hk5] at hje
          obtain rfl := Option.some.inj hje
          refine he8.row (row_base hown7 (fun q hq => ?_)) (fun q hq h => ?_)
          · have := hnew q hq; omega
          · have := hnew q hq; omega
        · rw [List.getElem?_set_ne (by omega)] at hje
          have h1 := hbids j e (by omega) hje
          exact he8.row ((Eff.of_below (S := fun _ => False) hb7').row h1 (fun _ _ h => h)) (fun q hq h => by have := (h1.lt q hq).1; omega)
      · rw [List.getElem?_set_ne (by omega)] at hx
        by_cases hjk : j = k
        · subst hjk
          rw [List.getElem?_set_self hk5] at hy
          obtain rfl := Option.some.inj hy
          have h1 := ((hbids i x hij hx).lt a.block (by rw [ha]; rfl)).2
          have h2 := (hnew b.block (by rw [show A7 = some b from hb]; rfl)).1
          omega
        · rw [List.getElem?_set_ne (by omega)] at hy
          exact hsep i j x y a b hij (by omega) hx hy ha hb
      · exact (heff.step (Eff.of_below (S := fun _ => False) hb7') (fun _ _ h => h.elim)).setCell (p := ⟨g, k * 5 + 3, none⟩) (fun _ => rfl) _
      · exact (hB.trans (hb7'.mono hB.size)).setCell (by have := HM3.out.2.2.size; show w.heap.size ≤ g; omega) _
    case measure => simp [intOf]; omega
  case neg =>
  obtain rfl : es.length = k := by omega
  have d0 : wr.cell? ⟨w.heap.size, 0, none⟩ = some (.int .i64 co) := y0.cell 0
  have d1 : wr.cell? ⟨w.heap.size, 1, none⟩ = some (.int .i64 fo) := y0.cell 1
  have d2 : wr.cell? ⟨w.heap.size, 2, none⟩ = some (.int .i64 ho) := y0.cell 2
  have d3 : wr.cell? ⟨w.heap.size, 3, none⟩ = some (.slice M3 ms.length c3) := y0.cell 3
  have d4 : wr.cell? ⟨w.heap.size, 4, none⟩ = some (.slice E5 es.length c5) := y0.cell 4
  have HR := hid (And.intro hlen (And.intro hpl (And.intro hrow (And.intro hbids (And.intro hsep (And.intro heff (And.intro hB y1)))))))
  clear hlen hpl hrow hbids hsep heff hB y1 hrest y0 hlt hk
  go_wp2_with (refine wpList_store_agg rfl 53 _ _ rfl (w.heap.size + 1) 0 rfl (ringL co fo ho M3 ms.length c3 E5 es.length c5) rfl _ 53 HR.out.2.2.2.2.2.2.2 (by simp) rfl ring_info ?_; intro w9 hx9 he9 hsz9)
  have HX9 : Hid (Blk w9 (w.heap.size + 1) (ringL co fo ho M3 ms.length c3 E5 es.length c5) 53) := hx9
  refine ret_blk Tryd.results56 (w.heap.size + 1) (ringL co fo ho M3 ms.length c3 E5 es.length c5) 53 _ (by rfl) HX9.out Tryd.underlying53 rfl ring_info (by rfl) ?_
  have hMq : ∀ q, (Value.slice M3 ms.length c3).ownBlock = some q → q ≠ w.heap.size + 1 ∧ q < w3.heap.size ∧ w.heap.size ≤ q := fun q hq => by have := HM3.out.1 q hq; omega
  have hEq : ∀ q, (Value.slice E5 es.length c5).ownBlock = some q → w4.heap.size ≤ q ∧ q < w5.heap.size := HM6.out.1
  have hBq : ∀ e ∈ es', ∀ q, (Value.slice e.A e.bids.length e.c).ownBlock = some q → w6.heap.size ≤ q := fun e he q hq => by
    obtain ⟨j, hj⟩ := List.getElem?_of_mem he
    have hjl : j < es.length := by have := (List.getElem?_eq_some_iff.1 hj).1; have := HR.out.1; omega
    exact ((HR.out.2.2.2.1 j e hjl hj).lt q hq).1
  have h34 : w3.heap.size ≤ w4.heap.size := hs34
  have s1 := HM3.out.2.2.size
  have h46 : w5.heap.size = w6.heap.size := hsz56
  refine ⟨M3, c3, E5, es', c5, rfl, HR.out.2.1, ⟨?_, ?_, ?_, ?_, ?_, ?_⟩, ?_⟩
  · have h1 := HR.out.2.2.2.2.2.1.row HM6.out.2.2.1 (fun q hq h => by have := hMq q hq; have := hEq q h; omega)
    exact row_base (he9.row h1 (fun q hq h => (hMq q hq).1 h)) (fun q hq => (hMq q hq).2.2)
  · rw [HR.out.1]
    exact he9.row HR.out.2.2.1 (fun q hq h => by have := hEq q hq; omega)
  · intro e he
    obtain ⟨j, hj⟩ := List.getElem?_of_mem he
    have hjl : j < es.length := by have := (List.getElem?_eq_some_iff.1 hj).1; have := HR.out.1; omega
    exact row_base (he9.row (HR.out.2.2.2.1 j e hjl hj) (fun q hq h => by have := hBq e he q hq; omega)) (fun q hq => by have := hBq e he q hq; omega)
  · intro a ha
    have h1 := hMq a.block (by rw [ha]; rfl)
    exact ⟨fun b hb h => by have := hEq b.block (by rw [hb]; rfl); omega, fun e he b hb h => by have := hBq e he b.block (by rw [hb]; rfl); omega⟩
  · intro a ha e he b hb h
    have := hEq a.block (by rw [ha]; rfl)
    have := hBq e he b.block (by rw [hb]; rfl)
    omega
  · intro i j x y a b hij hx hy ha hb h
    have hjl : j < es.length := by have := (List.getElem?_eq_some_iff.1 hy).1; have := HR.out.1; omega
    have := HR.out.2.2.2.2.1 i j x y a b hij hjl hx hy ha hb
    omega
  · exact he9.below HR.out.2.2.2.2.2.2.1 HR.out.2.2.2.2.2.2.1.size (fun i hi h => by omega)
def GivesClone (w : World) (f : FrL) (e : Ending) (w' : World) : Prop := ∃ (MA : Option Addr) (mc : Nat) (EA : Option Addr) (es' : List EntL) (ec : Nat),
  e = .returned (FrL.val ⟨f.kind, f.fr, f.tt, f.life, f.seen, f.out, f.count, f.founder, f.hop, MA, f.ms, mc, EA, es', ec⟩) ∧ es'.map EntL.pl = f.es.map EntL.pl ∧ RingOwn w.heap.size w' MA f.ms mc EA es' ec ∧ Below w.heap.size w w'
theorem len_pl {es es' : List EntL} (h : es'.map EntL.pl = es.map EntL.pl) : es'.length = es.length := by
  have := congrArg List.length h
  simpa using this
theorem RingOwn.base_le {B B' : Nat} {w : World} {MA EA : Option Addr} {ms : List Int} {es : List EntL} {mc ec : Nat} (h : RingOwn B w MA ms mc EA es ec) (hb : B' ≤ B) : RingOwn B' w MA ms mc EA es ec :=
  ⟨row_base h.mem (fun q hq => Nat.le_trans hb (h.mem.lt q hq).1), row_base h.ent (fun q hq => Nat.le_trans hb (h.ent.lt q hq).1), fun e he => row_base (h.bid e he) (fun q hq => Nat.le_trans hb ((h.bid e he).lt q hq).1), h.sepM, h.sepE, h.sepB⟩
theorem RingOwn.eff {B : Nat} {S : Nat → Prop} {w w' : World} {MA EA : Option Addr} {ms : List Int} {es : List EntL} {mc ec : Nat} (h : RingOwn B w MA ms mc EA es ec) (he : Eff S w w') (hS : ∀ k, B ≤ k → ¬ S k) : RingOwn B w' MA ms mc EA es ec :=
  ⟨he.row h.mem (fun q hq => hS q (h.mem.lt q hq).1), he.row h.ent (fun q hq => hS q (h.ent.lt q hq).1), fun e hm => he.row (h.bid e hm) (fun q hq => hS q ((h.bid e hm).lt q hq).1), h.sepM, h.sepE, h.sepB⟩
set_option maxRecDepth 100000 in
set_option maxHeartbeats 4000000 in
theorem clone_any (f : FrL) (w : World) (hf : FrOk w f) (hl : f.light = true) : Calls Tryd.prog 36 #[f.val] w (GivesClone w f) := by
  have hr := hf.ring hl
  obtain ⟨k, fr, tt, li, se, ou, co, fo, ho, MA, ms, mc, EA, es, ec⟩ := f
  obtain ⟨w2, hw2⟩ : ∃ w2, w2 = (w.alloc (.cells (frameV k fr tt li se ou co fo ho MA ms.length mc EA es.length ec) 64)).alloc (.cells (frameV 0 0 0 0 0 false 0 0 0 none 0 0 none 0 0) 64) := ⟨_, rfl⟩
  have hB2 : Below w.heap.size w w2 := by rw [hw2]; exact ((Below.refl _ _).alloc (Nat.le_refl _) _).alloc (by simp) _
  have x0 : Blk w2 w.heap.size (frameL k fr tt li se ou co fo ho MA ms.length mc EA es.length ec) 64 := by rw [hw2]; exact (Blk.new w _ _).alloc _
  have x1 : Blk w2 (w.heap.size + 1) (frameL 0 0 0 0 0 false 0 0 0 none 0 0 none 0 0) 64 := by
    rw [hw2, show w.heap.size + 1 = (w.alloc (.cells (frameV k fr tt li se ou co fo ho MA ms.length mc EA es.length ec) 64)).heap.size from by simp]
    exact Blk.new _ _ _
  have hf2 := hf.on hB2
  have hc := cloneRing_any co fo ho MA mc ms EA ec es w2 hf2.mem (Nat.le_trans hr.lens.1 (by omega)) hf2.ents (Nat.le_trans hr.lens.2.1 (by omega)) (fun e he => by
    have h1 := hl
    simp only [FrL.light, Bool.and_eq_true, decide_eq_true_eq] at h1
    have := List.all_eq_true.1 h1.1.1 e he
    simp only [decide_eq_true_eq] at this
    omega)
  clear hf hr hl hf2
  simp only [FrL.val]
  go_enter Tryd.func36, Tryd.ntmps36
  go_upto_region 1 with (fail)
  rw [← hw2]
  clear hw2
  have d6 : w2.cell? ⟨w.heap.size, 6, none⟩ = some (.int .i64 co) := x0.cell 6
  have d7 : w2.cell? ⟨w.heap.size, 7, none⟩ = some (.int .i64 fo) := x0.cell 7
  have d8 : w2.cell? ⟨w.heap.size, 8, none⟩ = some (.int .i64 ho) := x0.cell 8
  have d9 : w2.cell? ⟨w.heap.size, 9, none⟩ = some (.slice MA ms.length mc) := x0.cell 9
  have d10 : w2.cell? ⟨w.heap.size, 10, none⟩ = some (.slice EA es.length ec) := x0.cell 10
  go_wp2_with fail
  refine hc.mono ?_
  rintro e w3 ⟨M3, c3, E3, es', e3, rfl, hpl, hown, hb3⟩
  have y0 := (Eff.of_below (S := fun _ => False) hb3).blk x0 (fun h => h)
  have y1 := (Eff.of_below (S := fun _ => False) hb3).blk x1 (fun h => h)
  have hB3 := hB2.trans (hb3.mono hB2.size)
  have hl1 := x1.lt
  have HO := hid (And.intro hpl (And.intro (hown.base_le (B' := w.heap.size + 2) (by omega)) (And.intro hB3 (And.intro y0 y1))))
  clear hpl hown hb3 hB3 y0 y1 x0 x1 hc hB2 d6 d7 d8 d9 d10
  go_wp2_with (first | (refine wpList_store_agg rfl 53 _ _ rfl w.heap.size 6 rfl (ringL co fo ho M3 ms.length c3 E3 es.length e3) rfl _ 64 HO.out.2.2.2.1 (by simp) rfl ring_info ?_; intro w4 hx4 he4 hsz4; have z0 : Blk w4 w.heap.size (frameL k fr tt li se ou co fo ho M3 ms.length c3 E3 es.length e3) 64 := hx4; have d0 : w4.cell? ⟨w.heap.size, 0, none⟩ = some (.int .i64 k) := z0.cell 0; have d1 : w4.cell? ⟨w.heap.size, 1, none⟩ = some (.int .i64 fr) := z0.cell 1; have d2 : w4.cell? ⟨w.heap.size, 2, none⟩ = some (.int .i64 tt) := z0.cell 2; have d3 : w4.cell? ⟨w.heap.size, 3, none⟩ = some (.int .i64 li) := z0.cell 3; have d4 : w4.cell? ⟨w.heap.size, 4, none⟩ = some (.int .i64 se) := z0.cell 4; have d5 : w4.cell? ⟨w.heap.size, 5, none⟩ = some (.bool ou) := z0.cell 5; have d6 : w4.cell? ⟨w.heap.size, 6, none⟩ = some (.int .i64 co) := z0.cell 6; have d7 : w4.cell? ⟨w.heap.size, 7, none⟩ = some (.int .i64 fo) := z0.cell 7; have d8 : w4.cell? ⟨w.heap.size, 8, none⟩ = some (.int .i64 ho) := z0.cell 8; have d9 : w4.cell? ⟨w.heap.size, 9, none⟩ = some (.slice M3 ms.length c3) := z0.cell 9; have d10 : w4.cell? ⟨w.heap.size, 10, none⟩ = some (.slice E3 es.length e3) := z0.cell 10; have z1 := he4.blk HO.out.2.2.2.2 (fun h => by omega); have HZ := hid (And.intro he4 z1); clear hx4 he4 z0 z1 hsz4) | (refine wpList_store_agg rfl 64 _ _ rfl (w.heap.size + 1) 0 rfl (frameL k fr tt li se ou co fo ho M3 ms.length c3 E3 es.length e3) rfl _ 64 HZ.out.2 (by simp) rfl frame_info ?_; intro w9 hx9 he9 hsz9))
  have HX9 : Hid (Blk w9 (w.heap.size + 1) (frameL k fr tt li se ou co fo ho M3 ms.length c3 E3 es.length e3) 64) := hx9
  refine ret_blk Tryd.results36 (w.heap.size + 1) (frameL k fr tt li se ou co fo ho M3 ms.length c3 E3 es.length e3) 64 _ (by rfl) HX9.out Tryd.underlying64 rfl frame_info (by rfl) ?_
  have hel := len_pl HO.out.1
  refine ⟨M3, c3, E3, es', e3, ?_, HO.out.1, ?_, ?_⟩
  · simp only [FrL.val]
    rw [hel]
  · exact ((HO.out.2.1.eff HZ.out.1 (fun k hk h => by omega)).eff he9 (fun k hk h => by omega)).base_le (by omega)
  · exact he9.below (HZ.out.1.below HO.out.2.2.1 HO.out.2.2.1.size (fun i hi h => by omega)) (by have := HO.out.2.2.1.size; have := HZ.out.1.size; omega) (fun i hi h => by omega)
end Go.Proofs.YtogcbiooddodlaaDoor
