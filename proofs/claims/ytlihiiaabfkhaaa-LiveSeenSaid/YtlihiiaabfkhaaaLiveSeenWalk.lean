/- LiveSeen: the walk: whatever numbers come, the Go text returns true. -/
import Derived.Test.YtlihiiaabfkhaaaLiveFirst
namespace Go.Proofs.Ytlihiiaabfkhaaa
open Go.RowKit

def icells (l : List Int) : List Value := l.map (Value.int .i64)
theorem icells_get {l : List Int} {k : Nat} (h : k < l.length) : (icells l)[k]? = some (.int .i64 (l.getD k 0)) := getD_int h
theorem icells_set (l : List Int) (k : Nat) (x : Int) : (icells l).set k (.int .i64 x) = icells (l.set k x) := by simp [icells, List.map_set]
def ints0 (n : Nat) : List Int := List.replicate n 0
theorem zero_ints16 (w : World) : (zeroValue 29).run Try.prog w = .ok (.agg (icells (ints0 16)).toArray) w := by kernel_rfl

/-! The plain part: when a car is alive. -/
/-- Behind i rounds: who was never heard, or so long ago, is not alive. -/
def OneInv (i : Nat) (o : One) (x : Int) : Prop :=
  o.life ≤ 1 ∧ o.out = false ∧ ((x = -100 ∧ o.heard = false) ∨ (0 ≤ x ∧ x < i ∧ (o.heard = true ↔ (i : Int) - x ≤ 3) ∧ (o.heard = true → o.age = (i : Int) - x)))
structure SeenInv (i : Nat) (t : Tab) (last : List Int) : Prop where
  ok : t.ok
  len : last.length = 16
  one : ∀ c, c < 16 → OneInv i (t.at c) (last.getD c 0)

theorem seen_start : SeenInv 0 Tab.zero ((List.range 16).map fun _ => -100) := by
  refine ⟨Tab.ok_zero, by decide, fun c hc => ?_⟩
  have h1 : Tab.zero.at c = One.zero := by
    unfold Tab.zero Tab.at
    rw [List.getD_eq_getElem?_getD, List.getElem?_replicate, if_pos hc]
    rfl
  have h2 : ((List.range 16).map fun _ => (-100 : Int)).getD c 0 = -100 := by
    simp [List.getD_eq_getElem?_getD, hc]
  rw [h1, h2]
  exact ⟨by decide, rfl, .inl ⟨rfl, rfl⟩⟩

theorem tick_at {t : Tab} {c : Nat} (h : c < t.l.length) : t.tick.at c = (t.at c).tick := by
  simp [Tab.tick, Tab.at, List.getD_eq_getElem?_getD, h]
theorem hear_at {t : Tab} (h : t.l.length = 16) {n life seen : Int} {out : Bool} (hy : t.takes n life seen = true) {c : Nat} (hc : c < 16) :
    (t.hear n life seen out).at c = if c = n.toNat then ⟨true, true, out, life, 0⟩ else t.at c := by
  unfold Tab.hear
  rw [if_pos hy]
  simp only [Tab.at, List.getD_eq_getElem?_getD, List.getElem?_set]
  by_cases e : n.toNat = c
  · simp [e, h, hc]
  · rw [if_neg e, if_neg (fun x => e x.symm)]

theorem one_step {i : Nat} {o : One} {x : Int} (h : OneInv i o x) : OneInv (i + 1) o.tick x := by
  obtain ⟨h1, h2, h3⟩ := h
  refine ⟨by unfold One.tick; split <;> exact h1, by unfold One.tick; split <;> exact h2, ?_⟩
  rcases h3 with ⟨hx, hh⟩ | ⟨a, b, c, d⟩
  · exact .inl ⟨hx, by simp [One.tick, hh]⟩
  · refine .inr ⟨a, by omega, ?_, ?_⟩
    · cases hh : o.heard with
      | true =>
        have := d hh
        simp [One.tick, hh]
        omega
      | false =>
        have : ¬ (i : Int) - x ≤ 3 := fun q => by rw [c.2 q] at hh; cases hh
        simp [One.tick, hh]
        omega
    · intro hh
      cases hh' : o.heard with
      | true =>
        have := d hh'
        simp [One.tick, hh']
        omega
      | false => simp [One.tick, hh'] at hh
theorem seen_takes {i : Nat} {t : Tab} {last : List Int} (h : SeenInv i t last) {n seen : Int} (h0 : 0 ≤ n) (h1 : n < 16) (h2 : 0 ≤ seen) : t.takes n 1 seen = true := by
  have := (h.one n.toNat (by omega)).1
  simp [Tab.takes, h0, h1, h2]
  exact .inr this
theorem seen_step {i : Nat} {t : Tab} {last : List Int} (h : SeenInv i t last) {n seen : Int} (h0 : 0 ≤ n) (h1 : n < 16) (h2 : 0 ≤ seen) :
    SeenInv (i + 1) (t.hear n 1 seen false).tick (last.set n.toNat i) := by
  have hy := seen_takes h h0 h1 h2
  have ok1 := Tab.hear_ok h.ok n 1 seen false
  refine ⟨Tab.tick_ok ok1, by simpa using h.len, fun c hc => ?_⟩
  rw [tick_at (by rw [ok1.1]; exact hc), hear_at h.ok.1 hy hc]
  have hl : (last.set n.toNat (i : Int)).getD c 0 = if c = n.toNat then (i : Int) else last.getD c 0 := by
    simp only [List.getD_eq_getElem?_getD, List.getElem?_set]
    by_cases e : n.toNat = c
    · simp [e, h.len, hc]
    · rw [if_neg e, if_neg (fun x => e x.symm)]
  rw [hl]
  by_cases e : c = n.toNat
  · rw [if_pos e, if_pos e]
    exact ⟨by simp [One.tick], by simp [One.tick], .inr ⟨by omega, by omega, by simp [One.tick]; omega, by simp [One.tick]; omega⟩⟩
  · rw [if_neg e, if_neg e]
    exact one_step (h.one c hc)

/-- Who should be alive in round i. -/
def wantTo (last : List Int) (i k : Nat) : List Int := ((List.range k).filter fun c => decide ((i : Int) - last.getD c 0 < 3)).map Int.ofNat
theorem wantTo_succ (last : List Int) (i k : Nat) : wantTo last i (k + 1) = wantTo last i k ++ if (i : Int) - last.getD k 0 < 3 then [(k : Int)] else [] := by
  unfold wantTo
  rw [List.range_succ, List.filter_append, List.map_append]
  congr 1
  by_cases h : (i : Int) - last.getD k 0 < 3
  · rw [if_pos h, List.filter_cons_of_pos (by simpa using h)]
    rfl
  · rw [if_neg h, List.filter_cons_of_neg (by simpa using h)]
    rfl
theorem wantTo_length (last : List Int) (i k : Nat) : (wantTo last i k).length ≤ k := by
  unfold wantTo
  rw [List.length_map]
  exact Nat.le_trans (List.length_filter_le _ _) (by simp)
theorem seen_alive {i : Nat} {t : Tab} {last : List Int} (h : SeenInv (i + 1) t last) : t.alive = wantTo last i 16 := by
  unfold Tab.alive Tab.aliveTo wantTo
  congr 1
  apply List.filter_congr
  intro c hc
  have hc : c < 16 := by simpa using hc
  obtain ⟨_, h2, h3⟩ := h.one c hc
  unfold One.alive
  rw [h2]
  rcases h3 with ⟨hx, hh⟩ | ⟨a, b, cc, d⟩
  · rw [hh, hx]
    symm
    simp
    omega
  · rw [Bool.eq_iff_iff]
    simp only [Bool.not_false, Bool.and_true, decide_eq_true_eq, cc]
    omega

/-! The walk. -/
def FillRel (w : World) (g : Nat) (i : Value) (wr : World) : Prop :=
  ∃ k : Nat, k ≤ 16 ∧ i = .int .i64 k ∧ Blk wr g (icells (List.replicate k (-100) ++ ints0 (16 - k))) 29 ∧ Eff (· = g) w wr
theorem fill_step (k : Nat) (h : k < 16) : (List.replicate k (-100 : Int) ++ ints0 (16 - k)).set k (-100) = List.replicate (k + 1) (-100) ++ ints0 (16 - (k + 1)) := by
  rw [List.set_append_right _ _ (by simp), List.length_replicate, Nat.sub_self, show 16 - k = (16 - (k + 1)) + 1 from by omega]
  unfold ints0
  rw [List.replicate_succ, List.set_cons_zero, List.replicate_succ', List.append_assoc]
  rfl

def SeenRel (w : World) (bT bL n : Nat) (m i : Value) (wr : World) : Prop :=
  ∃ (k : Nat) (t : Tab) (last : List Int), k ≤ n ∧ i = .int .i64 k ∧ m = .int .i64 t.seen ∧ SeenInv k t last ∧ 0 ≤ t.seen ∧ Blk wr bT t.cells 28 ∧ Blk wr bL (icells last) 29 ∧ Below w.heap.size w wr
def WantRel (w : World) (last : List Int) (i : Nat) (v k : Value) (wr : World) : Prop :=
  ∃ c : Nat, c ≤ 16 ∧ k = .int .i64 c ∧ wr.ownsRow w.heap.size 3 1 v (wantTo last i c).length ((wantTo last i c).map (Value.int .i64)) ∧ Below w.heap.size w wr

set_option maxRecDepth 100000 in
set_option maxHeartbeats 1600000 in
theorem liveSeen_walk (A : Option Addr) (c : Nat) (xs : List Int) (w : World) (hx : Sl w A (xs.map (Value.int .i64))) (hxl : xs.length ≤ 9223372036854775807) :
    Calls Try.prog 3 #[.slice A xs.length c] w (SaysTrue w) := by
  have hz := zero_table
  have hz2 := zero_ints16
  by_cases hn : xs.length ≤ 40
  · go_enter Try.func3, Try.ntmps3
    go_wp2_with fail
    refine (first_any _).mono ?_
    rintro e w1 ⟨rfl, hB1⟩
    go_wp2_with fail
    obtain ⟨w2, hw2⟩ : ∃ w2, w2 = ((w1.alloc (.cells Tab.zero.cells.toArray 28)).alloc (.cells (icells (ints0 16)).toArray 29)) := ⟨_, rfl⟩
    have hT2 : Blk w2 w1.heap.size Tab.zero.cells 28 := by rw [hw2]; exact (Blk.new w1 _ _).alloc _
    have hL2 : Blk w2 (w1.heap.size + 1) (icells (ints0 16)) 29 := by rw [hw2, show w1.heap.size + 1 = (w1.alloc (.cells Tab.zero.cells.toArray 28)).heap.size from by simp]; exact Blk.new _ _ _
    have hB2 : Below w.heap.size w w2 := by rw [hw2]; exact (hB1.alloc hB1.size _).alloc (Nat.le_trans hB1.size (by simp)) _
    rw [← hw2]
    clear hw2 hz hz2
    go_loopw [7] (fun i wr => FillRel w2 (w1.heap.size + 1) i wr) (fun i _ => 16 - (intOf i).toNat)
    case atStart => exact ⟨0, by omega, rfl, by simpa using hL2, Eff.refl _ _⟩
    case round =>
      obtain ⟨k, hk, rfl, hf, he⟩ := hrel
      by_cases hlt : k < 16
      · have hl : k < (List.replicate k (-100 : Int) ++ ints0 (16 - k)).length := by simp [ints0]; omega
        have c0 := hf.cell_some (icells_get hl)
        have f0 := hf.frozen k
        have hs := hf.set k (.int .i64 (-100))
        rw [icells_set, fill_step k hlt] at hs
        generalize (List.replicate k (-100 : Int) ++ ints0 (16 - k)).getD k 0 = y at c0
        go_wp2
        go_roundw
        case rel => exact ⟨k + 1, by omega, by go_num, hs, he.set _ _⟩
        case measure => simp [intOf]; omega
      · have hk16 : k = 16 := by omega
        subst hk16
        rw [show ((16 : Nat) : Int) = 16 from rfl]
        have hT3 := he.blk hT2 (by omega)
        have hB3 := he.below hB2 (Nat.le_trans hB2.size (by omega)) (fun i hi => by have := hB1.size; omega)
        have hz1 := hB1.size
        have hL3 : Blk wr (w1.heap.size + 1) (icells ((List.range 16).map fun _ => -100)) 29 := hf
        clear hf he hT2 hL2 hB2
        generalize w1.heap.size = B at *
        go_wp2
        go_loopw [5, 8] (fun m i wr => SeenRel w B (B + 1) xs.length m i wr) (fun _ i _ => xs.length - (intOf i).toNat)
        case atStart => exact ⟨0, Tab.zero, _, by omega, rfl, rfl, seen_start, by decide, hT3, hL3, hB3⟩
        case round =>
          clear hT3 hL3 hB3 hlt
          obtain ⟨k, t, last, hk, rfl, rfl, hinv, hm0, hT, hL, hBl⟩ := hrel
          by_cases hlt : k < xs.length
          · obtain ⟨b, o, rfl, hbw, hc⟩ := hx.at (by simp; omega)
            have hcell : wr.cell? ⟨b, o + k, none⟩ = some (.int .i64 (xs.getD k 0)) := by rw [hBl.cell (p := ⟨b, o + k, none⟩) hbw, hc k (by simpa using hlt), getD_int hlt]
            clear hc
            obtain ⟨x, ex⟩ : ∃ x, xs.getD k 0 = x := ⟨_, rfl⟩
            rw [ex] at hcell
            clear ex
            go_wp2_with fail
            refine (number_rng _ _ (by omega) (by omega) _).mono ?_
            rintro e w' ⟨car, hc0, hc1, rfl, rfl⟩
            go_wp2_with fail
            refine (number_rng _ _ (by omega) (by omega) _).mono ?_
            rintro e w' ⟨sn, hs0, hs1, rfl, rfl⟩
            go_wp2_with fail
            refine (hear_yes hinv.ok _ _ _ _ _ hT (seen_takes hinv hc0 hc1 hs0)).mono ?_
            rintro e w4 ⟨rfl, hT4, he4⟩
            have hL4 := he4.blk hL (by omega)
            have hB4 := he4.below hBl hBl.size (fun i hi => by omega)
            have ok4 := Tab.hear_ok hinv.ok car 1 sn false
            have hsn : (t.hear car 1 sn false).seen = max t.seen sn := by simp [Tab.hear, seen_takes hinv hc0 hc1 hs0]
            have hnext := seen_step hinv hc0 hc1 hs0
            have HLL := hid hinv.len
            generalize t.hear car 1 sn false = t4 at *
            clear hT hL hBl he4 hinv
            have HSN := hid hsn
            clear hsn
            go_wp2_with fail
            refine (hear_no ok4 _ _ _ _ _ hT4 (by simp [Tab.takes])).mono ?_
            rintro e w' ⟨rfl, rfl⟩
            go_wp2_with fail
            refine (hear_no ok4 _ _ _ _ _ hT4 (by simp [Tab.takes])).mono ?_
            rintro e w' ⟨rfl, rfl⟩
            go_wp2_with fail
            refine (hear_no ok4 _ _ _ _ _ hT4 (by simp [Tab.takes])).mono ?_
            rintro e w' ⟨rfl, rfl⟩
            obtain ⟨m, hm⟩ : ∃ m, (if t.seen < sn then sn else t.seen) = m := ⟨_, rfl⟩
            have HMX : Hid (t4.seen = m) := by rw [Hid, HSN.out, ← hm]; omega
            have hm1 : 0 ≤ m := by rw [← hm]; omega
            have hcl : car.toNat < last.length := by rw [HLL.out]; omega
            have c1 := hL4.cell_some (icells_get hcl)
            have f1 := hL4.frozen car.toNat
            have hL5 := hL4.set car.toNat (.int .i64 k)
            rw [icells_set] at hL5
            have hT5 := hT4.set_ne (b' := B + 1) (by omega) car.toNat none (.int .i64 k)
            have hB5 := hB4.setCell (p := ⟨B + 1, car.toNat, none⟩) (by simp; omega) (.int .i64 k)
            go_wp2_with fail
            generalize w4.setCell ⟨B + 1, car.toNat, none⟩ (.int .i64 k) = w5 at *
            generalize last.set car.toNat (k : Int) = last2 at *
            clear hT4 hL4 hB4 c1 f1 hm hcl HLL HSN
            refine (tick_any ok4 _ hT5).mono ?_
            rintro e w6 ⟨rfl, hT6, he6⟩
            have hL6 := he6.blk hL5 (by omega)
            have hB6 := he6.below hB5 hB5.size (fun i hi => by omega)
            have HM6 : Hid (t4.tick.seen = m) := HMX
            have hm6 : (t4.tick.seen != m) = false := by rw [HM6.out]; simp
            generalize t4.tick = t6 at *
            clear hT5 hL5 hB5 he6 HMX ok4
            go_wp2
            go_loopw [11, 12] (fun v c wr => WantRel w6 last2 k v c wr) (fun _ c _ => 16 - (intOf c).toNat)
            case atStart => exact ⟨0, by omega, rfl, World.ownsRow_nil _ _ _ _, Below.refl _ _⟩
            case round =>
              obtain ⟨j, hj, rfl, hown, hbl⟩ := hrel
              by_cases hlj : j < 16
              · have hll := hnext.len
                have c7 : wr.cell? ⟨B + 1, j, none⟩ = some (.int .i64 (last2.getD j 0)) := (hbl.cell (p := ⟨B + 1, j, none⟩) hL6.lt).trans (hL6.cell_some (icells_get (by omega)))
                have HW := hid (wantTo_succ last2 k j)
                have hwl := wantTo_length last2 k j
                have hy : -100 ≤ last2.getD j 0 ∧ last2.getD j 0 ≤ 40 := by
                  rcases (hnext.one j hlj).2.2 with ⟨h, _⟩ | ⟨h1, h2, _⟩ <;> omega
                obtain ⟨y, ey⟩ : ∃ y, last2.getD j 0 = y := ⟨_, rfl⟩
                rw [ey] at c7 HW hy
                clear ey hll
                obtain ⟨hy0, hy1⟩ := hy
                by_cases hyk : (k : Int) - y < 3
                · have HY := hid hyk
                  go_wp2_with (at_builtin; refine wpList_append_new row_ints rfl _ _ rfl w6.heap.size _ _ _ rfl hown 1 [.int .i64 j] _ rfl rfl rfl rfl (by unfold maxLen; omega) (by omega) hbl.size rfl ?_; intro v' w' hown' hgrow)
                  have hbl' := hbl.grown hgrow hbl.size (fun q hq => (hown.lt q hq).1)
                  clear hgrow hown
                  go_wp2
                  go_roundw
                  case rel =>
                    refine ⟨j + 1, by omega, by go_num, ?_, hbl'⟩
                    rw [HW.out, if_pos HY.out]
                    simpa using hown'
                  case measure => simp [intOf]; omega
                · have HY := hid hyk
                  have hyk' : 3 ≤ (k : Int) - y := by omega
                  go_wp2
                  go_roundw
                  case rel =>
                    refine ⟨j + 1, by omega, by go_num, ?_, hbl⟩
                    rw [HW.out, if_neg HY.out]
                    simpa using hown
                  case measure => simp [intOf]; omega
              · have hj16 : j = 16 := by omega
                subst hj16
                have hT7 := (Eff.of_below (S := fun _ => False) hbl).blk hT6 (fun h => h)
                have hL7 := (Eff.of_below (S := fun _ => False) hbl).blk hL6 (fun h => h)
                have hB7 := hB6.trans (hbl.mono hB6.size)
                have hal := seen_alive hnext
                have hwl := wantTo_length last2 k 16
                generalize wantTo last2 k 16 = want at *
                clear hT6 hL6 hB6
                go_wp2_with fail
                refine (seen_any hnext.ok _ hT7).mono ?_
                rintro e w' ⟨rfl, rfl⟩
                go_wp2_with fail
                have hall := alive_any hnext.ok _ hT7
                rw [hal] at hall
                refine hall.mono ?_
                rintro e w8 ⟨v, rfl, hrow, hbl8⟩
                have hown8 := (Eff.of_below (S := fun _ => False) hbl8).row hown (fun _ _ h => h)
                obtain ⟨A1, c1, rfl, hs1, _⟩ := row_open hrow
                obtain ⟨A2, c2, rfl, hs2, _⟩ := row_open hown8
                have hT8 := (Eff.of_below (S := fun _ => False) hbl8).blk hT7 (fun h => h)
                have hL8 := (Eff.of_below (S := fun _ => False) hbl8).blk hL7 (fun h => h)
                have hB8 := hB7.trans (hbl8.mono hB7.size)
                have HAL := hid hal
                clear hall hrow hown8 hown hbl hbl8 hT7 hL7 hB7 hal
                go_wp2_with fail
                refine (sameInts_any A1 A2 c1 c2 want want _ hs1 hs2 (by unfold maxLen; omega) (by unfold maxLen; omega)).mono ?_
                rintro e w' ⟨rfl, nq, rfl⟩
                have hd : decide (want = want) = true := by simp
                rw [hd]
                clear hd
                go_wp2
                go_roundw
                case rel => exact ⟨k + 1, t6, last2, by omega, by go_num, by rw [HM6.out], hnext, by rw [HM6.out]; exact hm1, hT8.drewN _, hL8.drewN _, below_drewN hB8 _⟩
                case measure => simp [intOf]; omega
          · go_wp2
            go_ret
            exact ⟨rfl, hBl⟩
  · go_enter Try.func3, Try.ntmps3
    go_wp2_with fail
    refine (first_any _).mono ?_
    rintro e w1 ⟨rfl, hB1⟩
    go_wp2_with fail
    go_ret
    exact ⟨rfl, hB1⟩
end Go.Proofs.Ytlihiiaabfkhaaa
