/- LivePlays: the walk: whatever is heard, and ticked, the Go text returns true. -/
import Derived.Test.YtlihiiaabfkhaaaLiveRef2
import Derived.Test.YtlihiiaabfkhaaaRegions
namespace Go.Proofs.Ytlihiiaabfkhaaa
open Go.RowKit
set_option linter.unusedSimpArgs false

structure DoL where
  kind : Int
  car : Int
  life : Int
  seen : Int
  out : Bool
def DoL.cells (d : DoL) : List Value := [.int .i64 d.kind, .int .i64 d.car, .int .i64 d.life, .int .i64 d.seen, .bool d.out]
def DoL.zero : DoL := ⟨0, 0, 0, 0, false⟩
theorem DoL.len (d : DoL) : d.cells.length = 5 := rfl

/-- What a table is told. -/
def Tab.told (t : Tab) (d : DoL) : Tab := if d.kind = 1 then t.hear d.car d.life d.seen d.out else t.tick
theorem Tab.told_ok {t : Tab} (h : t.ok) (d : DoL) : (t.told d).ok := by
  unfold Tab.told
  split
  · exact Tab.hear_ok h _ _ _ _
  · exact Tab.tick_ok h
theorem zero_ref (w : World) : (zeroValue 46).run Try.prog w = .ok (.agg Tab.zero.refCells.toArray) w := by kernel_rfl

def PlaysRel (w : World) (X Y n : Nat) (i : Value) (wr : World) : Prop :=
  ∃ (k : Nat) (t : Tab), k ≤ n ∧ i = .int .i64 k ∧ t.ok ∧ Blk wr X t.cells 28 ∧ Blk wr Y t.refCells 46 ∧ Below w.heap.size w wr

attribute [irreducible] PlaysRel
def MidRel (w : World) (t : Tab) (d : DoL) (X C : Nat) (v6 : Value) (wx : World) : Prop :=
  Blk wx X (t.told d).cells 28 ∧ Blk wx (X + 1) (t.told d).refCells 46 ∧ Blk wx C t.cells 28 ∧
    wx.ownsRow (C + 1) 3 1 v6 t.alive.length (t.alive.map (Value.int .i64)) ∧ Below w.heap.size w wx

set_option maxRecDepth 100000 in
set_option maxHeartbeats 12000000 in
theorem livePlays_walk (A : Option Addr) (c : Nat) (ds : List DoL) (ask : Int) (w : World) (hx : Sl w A (ds.flatMap DoL.cells)) (hxl : ds.length ≤ 9223372036854775807) :
    Calls Try.prog 6 #[.slice A ds.length c, .int .i64 ask] w (SaysTrue w) := by
  have hz := zero_table
  have hz2 := zero_ref
  by_cases hn : ds.length ≤ 60
  · go_enter Try.func6, Try.ntmps6
    go_wp2_with fail
    refine (first_any _).mono ?_
    rintro e w1 ⟨rfl, hB1⟩
    go_wp2_with fail
    obtain ⟨w2, hw2⟩ : ∃ w2, w2 = (w1.alloc (.cells Tab.zero.cells.toArray 28)).alloc (.cells Tab.zero.refCells.toArray 46) := ⟨_, rfl⟩
    have hT2 : Blk w2 w1.heap.size Tab.zero.cells 28 := by rw [hw2]; exact (Blk.new w1 _ _).alloc _
    have hR2 : Blk w2 (w1.heap.size + 1) Tab.zero.refCells 46 := by rw [hw2, show w1.heap.size + 1 = (w1.alloc (.cells Tab.zero.cells.toArray 28)).heap.size from by simp]; exact Blk.new _ _ _
    have hB2 : Below w.heap.size w w2 := by rw [hw2]; exact (hB1.alloc hB1.size _).alloc (Nat.le_trans hB1.size (by simp)) _
    rw [← hw2]
    have hz1 := hB1.size
    generalize w1.heap.size = X at *
    clear hw2 hz hz2 hB1
    go_loopw [8] (fun i wr => PlaysRel w X (X + 1) ds.length i wr) (fun i _ => ds.length - (intOf i).toNat)
    case atStart => unfold PlaysRel; exact ⟨0, Tab.zero, by omega, rfl, Tab.ok_zero, hT2, hR2, hB2⟩
    case round =>
      clear hT2 hR2 hB2
      unfold PlaysRel at hrel
      obtain ⟨k, t, hk, rfl, hok, hT, hR, hBl⟩ := hrel
      by_cases hlt : k < ds.length
      · obtain ⟨b, o, rfl, hbw, hc⟩ := hx.at (by rw [flat_length DoL.len]; omega)
        obtain ⟨d, hd⟩ : ∃ d, ds[k]? = some d := ⟨ds[k], List.getElem?_eq_getElem hlt⟩
        have hcell : ∀ j, j < 5 → wr.cell? ⟨b, o + (k * 5 + j), none⟩ = d.cells[j]? := fun j hj => by
          rw [hBl.cell (p := ⟨b, o + (k * 5 + j), none⟩) hbw, hc (k * 5 + j) (by rw [flat_length DoL.len]; omega)]
          have := flat_get DoL.len ds [] k j d hd hj
          simpa using this
        have d0 : wr.cell? ⟨b, o + k * 5, none⟩ = some (.int .i64 d.kind) := hcell 0 (by omega)
        have d1 : wr.cell? ⟨b, o + k * 5 + 1, none⟩ = some (.int .i64 d.car) := hcell 1 (by omega)
        have d2 : wr.cell? ⟨b, o + k * 5 + 2, none⟩ = some (.int .i64 d.life) := hcell 2 (by omega)
        have d3 : wr.cell? ⟨b, o + k * 5 + 3, none⟩ = some (.int .i64 d.seen) := hcell 3 (by omega)
        have d4 : wr.cell? ⟨b, o + k * 5 + 4, none⟩ = some (.bool d.out) := hcell 4 (by omega)
        clear hcell hc hd
        go_wp2_with fail
        obtain ⟨w3, hw3⟩ : ∃ w3, w3 = wr.alloc (.cells #[.int .i64 d.kind, .int .i64 d.car, .int .i64 d.life, .int .i64 d.seen, .bool d.out] 48) := ⟨_, rfl⟩
        have hD3 : Blk w3 wr.heap.size d.cells 48 := by rw [hw3]; exact Blk.new wr _ _
        have hT3 : Blk w3 X t.cells 28 := by rw [hw3]; exact hT.alloc _
        have hR3 : Blk w3 (X + 1) t.refCells 46 := by rw [hw3]; exact hR.alloc _
        have hB3 : Below w.heap.size w w3 := by rw [hw3]; exact hBl.alloc hBl.size _
        rw [← hw3]
        have hXD := hR.lt
        have hzD := hBl.size
        generalize wr.heap.size = D at *
        clear hw3 hT hR hBl d0 d1 d2 d3 d4
        refine (clone_any hok _ hT3).mono ?_
        rintro e w4 ⟨rfl, hC4, hbl4, hsz4⟩
        have hT4 := (Eff.of_below (S := fun _ => False) hbl4).blk hT3 (fun h => h)
        have hR4 := (Eff.of_below (S := fun _ => False) hbl4).blk hR3 (fun h => h)
        have hD4 := (Eff.of_below (S := fun _ => False) hbl4).blk hD3 (fun h => h)
        have hB4 := hB3.trans (hbl4.mono hB3.size)
        have hDC := hD3.lt
        generalize w3.heap.size = C at *
        clear hT3 hR3 hD3 hB3 hbl4 hsz4
        go_wp2_with fail
        refine (alive_any hok _ hC4).mono ?_
        rintro e w5 ⟨v5, rfl, hrow5, hbl5⟩
        obtain ⟨A5, c5, rfl, hs5, _⟩ := row_open hrow5
        have hal := t.aliveTo_length 16
        have hT5 := (Eff.of_below (S := fun _ => False) hbl5).blk hT4 (fun h => h)
        have hR5 := (Eff.of_below (S := fun _ => False) hbl5).blk hR4 (fun h => h)
        have hD5 := (Eff.of_below (S := fun _ => False) hbl5).blk hD4 (fun h => h)
        have hC5 := (Eff.of_below (S := fun _ => False) hbl5).blk hC4 (fun h => h)
        have hB5 := hB4.trans (hbl5.mono hB4.size)
        clear hT4 hR4 hD4 hC4 hB4 hbl5 hrow5
        go_wp2_with fail
        refine (ints_any A5 c5 t.alive _ hs5 (Nat.le_trans hal (by omega))).mono ?_
        rintro e w6 ⟨v6, rfl, hrow6, hbl6⟩
        have hT6 := (Eff.of_below (S := fun _ => False) hbl6).blk hT5 (fun h => h)
        have hR6 := (Eff.of_below (S := fun _ => False) hbl6).blk hR5 (fun h => h)
        have hD6 := (Eff.of_below (S := fun _ => False) hbl6).blk hD5 (fun h => h)
        have hC6 := (Eff.of_below (S := fun _ => False) hbl6).blk hC5 (fun h => h)
        have hB6 := hB5.trans (hbl6.mono hB5.size)
        have hrowlt : ∀ q, v6.ownBlock = some q → C < q := fun q hq => by have := (hrow6.lt q hq).1; have := hC5.lt; omega
        clear hT5 hR5 hD5 hC5 hB5 hbl6 hs5
        have d0 : w6.cell? ⟨D, 0, none⟩ = some (.int .i64 d.kind) := hD6.cell_some rfl
        have d1 : w6.cell? ⟨D, 1, none⟩ = some (.int .i64 d.car) := hD6.cell_some rfl
        have d2 : w6.cell? ⟨D, 2, none⟩ = some (.int .i64 d.life) := hD6.cell_some rfl
        have d3 : w6.cell? ⟨D, 3, none⟩ = some (.int .i64 d.seen) := hD6.cell_some rfl
        have d4 : w6.cell? ⟨D, 4, none⟩ = some (.bool d.out) := hD6.cell_some rfl
        go_upto_if 43 with fail
        go_cut [] (fun wx => MidRel w t d X C v6 wx)
        case first =>
          have hDlt := hD6.lt
          have hClt := hC6.lt
          have hBs := hB6.size
          have hT6' := hT6.drew
          have hR6' := hR6.drew
          have hC6' := hC6.drew
          have hB6' := hB6.drew
          have hrow6' := hrow6.drew
          have e1 : w6.drew.cell? ⟨D, 1, none⟩ = some (.int .i64 d.car) := d1
          have e2 : w6.drew.cell? ⟨D, 2, none⟩ = some (.int .i64 d.life) := d2
          have e3 : w6.drew.cell? ⟨D, 3, none⟩ = some (.int .i64 d.seen) := d3
          have e4 : w6.drew.cell? ⟨D, 4, none⟩ = some (.bool d.out) := d4
          have hDlt' : D < w6.drew.heap.size := hDlt
          have hbase : (w5.heap.size : Nat) = w5.heap.size := rfl
          clear hbase
          by_cases hk1 : d.kind = 1
          · have hkb : (d.kind == 1) = true := by simpa using hk1
            have HT : Hid (t.told d = t.hear d.car d.life d.seen d.out) := by simp [Hid, Tab.told, hk1]
            clear hk1
            cases hy : t.takes d.car d.life d.seen with
            | true =>
              have HY := hid hy
              clear hy
              go_wp2_with fail
              clear d0 hkb
              go_region_held3 (fun w' => w'.cell? ⟨D, 1, none⟩ = some (.int .i64 d.car) ∧ w'.cell? ⟨D, 2, none⟩ = some (.int .i64 d.life) ∧ w'.cell? ⟨D, 3, none⟩ = some (.int .i64 d.seen) ∧ w'.cell? ⟨D, 4, none⟩ = some (.bool d.out))
                (first | exact ⟨e1, e2, e3, e4⟩ | exact ⟨(he8.cell (by omega) (by omega)).trans g1, (he8.cell (by omega) (by omega)).trans g2, (he8.cell (by omega) (by omega)).trans g3, (he8.cell (by omega) (by omega)).trans g4⟩ | exact ⟨g1, g2, g3, g4⟩)
                (first
                  | (go_at_call 9; refine (hear_yes hok _ _ _ _ _ hT6' HY.out).mono ?_; rintro e w7 ⟨rfl, hT7, he7⟩
                     have g1 := (he7.cell hDlt' (by omega)).trans e1
                     have g2 := (he7.cell hDlt' (by omega)).trans e2
                     have g3 := (he7.cell hDlt' (by omega)).trans e3
                     have g4 := (he7.cell hDlt' (by omega)).trans e4
                     have hR7 := he7.blk hR6' (by omega)
                     have hC7 := he7.blk hC6' (by omega)
                     have hrow7 := he7.row hrow6' (fun q hq => by have := hrowlt q hq; omega)
                     have hB7 := he7.below hB6' hB6'.size (fun i hi => by omega)
                     have hz7 := he7.size)
                  | (go_at_call 17; refine (refHear_yes hok _ _ _ _ _ hR7 HY.out).mono ?_; rintro e w8 ⟨rfl, hR8, he8⟩))
              go_wp2_with fail
              go_meet
              have hT8 := he8.blk hT7 (by omega)
              have hC8 := he8.blk hC7 (by omega)
              have hrow8 := he8.row hrow7 (fun q hq => by have := hrowlt q hq; omega)
              have hB8 := he8.below hB7 hB7.size (fun i hi => by omega)
              refine ⟨?_, ?_, hC8, row_base hrow8 hrowlt, hB8⟩
              · rw [HT.out]; exact hT8
              · rw [HT.out]; exact hR8
            | false =>
              have HY := hid hy
              have HH : Hid (t.hear d.car d.life d.seen d.out = t) := by simp [Hid, Tab.hear, hy]
              clear hy
              go_wp2_with fail
              clear d0 hkb
              go_region_held3 (fun w' => w'.cell? ⟨D, 1, none⟩ = some (.int .i64 d.car) ∧ w'.cell? ⟨D, 2, none⟩ = some (.int .i64 d.life) ∧ w'.cell? ⟨D, 3, none⟩ = some (.int .i64 d.seen) ∧ w'.cell? ⟨D, 4, none⟩ = some (.bool d.out))
                (first | exact ⟨e1, e2, e3, e4⟩)
                (first
                  | (go_at_call 9; refine (hear_no hok _ _ _ _ _ hT6' HY.out).mono ?_; rintro e w' ⟨rfl, rfl⟩)
                  | (go_at_call 17; refine (refHear_no hok _ _ _ _ _ hR6' HY.out).mono ?_; rintro e w' ⟨rfl, rfl⟩))
              go_wp2_with fail
              go_meet
              refine ⟨?_, ?_, hC6', row_base hrow6' hrowlt, hB6'⟩
              · rw [HT.out, HH.out]; exact hT6'
              · rw [HT.out, HH.out]; exact hR6'
          · have hkb : (d.kind == 1) = false := by simpa using hk1
            have HT : Hid (t.told d = t.tick) := by simp [Hid, Tab.told, hk1]
            clear hk1 hT6' hR6' hC6' hB6' hrow6' e1 e2 e3 e4
            go_wp2_with fail
            clear d0 hkb d1 d2 d3 d4
            refine (tick_any hok _ hT6).mono ?_
            rintro e w7 ⟨rfl, hT7, he7⟩
            have hR7 := he7.blk hR6 (by omega)
            have hC7 := he7.blk hC6 (by omega)
            have hrow7 := he7.row hrow6 (fun q hq => by have := hrowlt q hq; omega)
            have hB7 := he7.below hB6 hB6.size (fun i hi => by omega)
            have hz7 := he7.size
            go_wp2_with fail
            refine (refTick_any hok _ hR7).mono ?_
            rintro e w8 ⟨rfl, hR8, he8⟩
            have hT8 := he8.blk hT7 (by omega)
            have hC8 := he8.blk hC7 (by omega)
            have hrow8 := he8.row hrow7 (fun q hq => by have := hrowlt q hq; omega)
            have hB8 := he8.below hB7 hB7.size (fun i hi => by omega)
            go_wp2_with fail
            go_meet
            refine ⟨?_, ?_, hC8, row_base hrow8 hrowlt, hB8⟩
            · rw [HT.out]; exact hT8
            · rw [HT.out]; exact hR8
        case rest =>
          clear hT6 hR6 hD6 hC6 hB6 hrow6 d0 d1 d2 d3 d4
          obtain ⟨hT7, hR7, hC7, hrow7, hB7⟩ := hcut
          have hok7 := Tab.told_ok hok d
          have hal7 := (t.told d).aliveTo_length 16
          generalize t.told d = t7 at *
          go_wp2_with fail
          refine (life_any hok7 _ _ hT7).mono ?_
          rintro e w' ⟨rfl, rfl⟩
          have hT8 := hT7.drew
          have hR8 := hR7.drew
          have hC8 := hC7.drew
          have hB8 := hB7.drew
          have hrow8 := hrow7.drew
          have cs : wc.drew.cell? ⟨X + 1, 80, none⟩ = some (.int .i64 t7.seen) := hR8.cell_some (ref_seen hok7.1)
          by_cases hin : 0 ≤ ask ∧ ask < 16
          · obtain ⟨ha0, ha1⟩ := hin
            have ck : wc.cell? ⟨X + 1, 16 + ask.toNat, none⟩ = some (.bool (t7.at ask.toNat).known) := hR7.cell_some (ref_known hok7.1 (by omega))
            have cl : wc.drew.cell? ⟨X + 1, ask.toNat, none⟩ = some (.int .i64 (t7.at ask.toNat).life) := hR8.cell_some (ref_life hok7.1 (by omega))
            cases hkn : (t7.at ask.toNat).known with
            | true =>
              have h1 : t7.has ask = true := by simp [Tab.has, ha0, ha1, hkn]
              have h2 : t7.lifeOf ask = (t7.at ask.toNat).life := by simp [Tab.lifeOf, h1]
              have hne : ((t7.at ask.toNat).life != (t7.at ask.toNat).life) = false := by simp
              have hne2 : (t7.seen != t7.seen) = false := by simp
              rw [h1, h2]
              rw [hkn] at ck
              clear h1 h2 hkn
              go_wp2_with fail
              clear ck
              go_region_held3 (fun w' => w'.cell? ⟨X + 1, ask.toNat, none⟩ = some (.int .i64 (t7.at ask.toNat).life) ∧ w'.cell? ⟨X + 1, 80, none⟩ = some (.int .i64 t7.seen))
                (first | exact ⟨cl, cs⟩ | exact ⟨cl9, cs9⟩ | exact ⟨cl10, cs10⟩ | exact ⟨cl11, cs11⟩ | exact ⟨cl12, cs12⟩)
                (first
                  | (go_at_call_of 13 (Value.pointer (some ⟨X, 0, none⟩)); refine (alive_any hok7 _ hT8).mono ?_; rintro e w9 ⟨v9, rfl, hr9, hb9⟩
                     obtain ⟨A9, c9, rfl, hs9, _⟩ := row_open hr9
                     have hT9 := (Eff.of_below (S := fun _ => False) hb9).blk hT8 (fun h => h)
                     have hR9 := (Eff.of_below (S := fun _ => False) hb9).blk hR8 (fun h => h)
                     have hC9 := (Eff.of_below (S := fun _ => False) hb9).blk hC8 (fun h => h)
                     have hrow9 := (Eff.of_below (S := fun _ => False) hb9).row hrow8 (fun _ _ h => h)
                     have hB9 := hB8.trans (hb9.mono hB8.size)
                     have cl9 := (hb9.cell (p := ⟨X + 1, ask.toNat, none⟩) hR8.lt).trans cl
                     have cs9 := (hb9.cell (p := ⟨X + 1, 80, none⟩) hR8.lt).trans cs)
                  | (go_at_call 19; refine (refAlive_any hok7 _ hR9).mono ?_; rintro e w10 ⟨v10, rfl, hr10, hb10⟩
                     obtain ⟨A10, c10, rfl, hs10, _⟩ := row_open hr10
                     have hT10 := (Eff.of_below (S := fun _ => False) hb10).blk hT9 (fun h => h)
                     have hC10 := (Eff.of_below (S := fun _ => False) hb10).blk hC9 (fun h => h)
                     have hR10 := (Eff.of_below (S := fun _ => False) hb10).blk hR9 (fun h => h)
                     have hrow10 := (Eff.of_below (S := fun _ => False) hb10).row hrow9 (fun _ _ h => h)
                     have hB10 := hB9.trans (hb10.mono hB9.size)
                     have hs9' := hs9.eff (Eff.of_below (S := fun _ => False) hb10) (fun _ _ h => h)
                     have cl10 := (hb10.cell (p := ⟨X + 1, ask.toNat, none⟩) hR9.lt).trans cl9
                     have cs10 := (hb10.cell (p := ⟨X + 1, 80, none⟩) hR9.lt).trans cs9)
                  | (go_at_call 12; refine (sameInts_same A12 A13 c12 c13 t.alive _ hs12 hs13 (Nat.le_trans hal (by omega))).mono ?_; rintro e w' ⟨rfl, n2, rfl⟩)
                  | (go_at_call 12; refine (sameInts_same A9 A10 c9 c10 t7.alive _ hs9' hs10 (Nat.le_trans hal7 (by omega))).mono ?_; rintro e w' ⟨rfl, n1, rfl⟩
                     have hT11 := hT10.drewN n1
                     have hC11 := hC10.drewN n1
                     have hrow11 : (w10.drewN n1).ownsRow (C + 1) 3 1 v6 t.alive.length (t.alive.map (Value.int .i64)) := hrow10
                     have hB11 := below_drewN hB10 n1
                     have cl11 : (w10.drewN n1).cell? ⟨X + 1, ask.toNat, none⟩ = some (.int .i64 (t7.at ask.toNat).life) := cl10
                     have cs11 : (w10.drewN n1).cell? ⟨X + 1, 80, none⟩ = some (.int .i64 t7.seen) := cs10)
                  | (go_at_call 11; refine (seen_any hok7 _ hT11).mono ?_; rintro e w' ⟨rfl, rfl⟩)
                  | (go_at_call_of 13 (Value.pointer (some ⟨C, 0, none⟩)); refine (alive_any hok _ hC11).mono ?_; rintro e w12 ⟨v12, rfl, hr12, hb12⟩
                     obtain ⟨A12, c12, rfl, hs12, _⟩ := row_open hr12
                     have hT12 := (Eff.of_below (S := fun _ => False) hb12).blk hT11 (fun h => h)
                     have hR12 := (Eff.of_below (S := fun _ => False) hb12).blk (hR10.drewN n1) (fun h => h)
                     have hrow12 := (Eff.of_below (S := fun _ => False) hb12).row hrow11 (fun _ _ h => h)
                     have hB12 := hB11.trans (hb12.mono hB11.size)
                     obtain ⟨A13, c13, rfl, hs13, _⟩ := row_open hrow12
                     have cl12 := (hb12.cell (p := ⟨X + 1, ask.toNat, none⟩) hR10.lt).trans cl11
                     have cs12 := (hb12.cell (p := ⟨X + 1, 80, none⟩) hR10.lt).trans cs11))
              go_wp2_with fail
              go_roundw
              case rel => unfold PlaysRel; exact ⟨k + 1, t7, by omega, by go_num, hok7, hT12.drewN n2, hR12.drewN n2, below_drewN hB12 n2⟩
              case measure => simp [intOf]; omega
            | false =>
              have h1 : t7.has ask = false := by simp [Tab.has, hkn]
              have h2 : t7.lifeOf ask = 0 := by simp [Tab.lifeOf, h1]
              have hne2 : (t7.seen != t7.seen) = false := by simp
              rw [h1, h2]
              rw [hkn] at ck
              clear h1 h2 hkn cl
              go_wp2_with fail
              clear ck
              refine wp_region_held_drew (S := fun w' => w'.cell? ⟨X + 1, 80, none⟩ = some (.int .i64 t7.seen)) (by kernel_rfl) ?_ (fun hHeld => ?_)
              · (try dsimp only); (first | exact cs | exact cs9 | exact cs10 | exact cs11 | exact cs12)
              refine held_take 0 ?_ rfl (by kernel_rfl) (by kernel_rfl) (by kernel_rfl) (fun _ _ _ h => h) (by rfl) ?_ hHeld ?_
              rotate_left
              · (intro w hSw; (try dsimp only at hSw); go_simp; try with_reducible rfl)
              try simp only [Act.put, List.setIfInBounds_toArray, List.set_cons_zero, List.set_cons_succ]
              refine held_take 1 ?_ rfl (by kernel_rfl) (by kernel_rfl) (by kernel_rfl) (fun _ _ _ h => h) (by rfl) ?_ hHeld ?_
              rotate_left
              · (intro w hSw; (try dsimp only at hSw); go_simp; try with_reducible rfl)
              try simp only [Act.put, List.setIfInBounds_toArray, List.set_cons_zero, List.set_cons_succ]
              refine held_take 2 ?_ rfl (by kernel_rfl) (by kernel_rfl) (by kernel_rfl) (fun _ _ _ h => h) (by rfl) ?_ hHeld ?_
              rotate_left
              · (intro w hSw; (try dsimp only at hSw); go_simp; try with_reducible rfl)
              try simp only [Act.put, List.setIfInBounds_toArray, List.set_cons_zero, List.set_cons_succ]
              refine held_take 3 ?_ rfl (by kernel_rfl) (by kernel_rfl) (by kernel_rfl) (fun _ _ _ h => h) (by rfl) ?_ hHeld ?_
              rotate_left
              · (intro w hSw; (try dsimp only at hSw); go_simp; try with_reducible rfl)
              try simp only [Act.put, List.setIfInBounds_toArray, List.set_cons_zero, List.set_cons_succ]
              refine held_take 4 ?_ rfl (by kernel_rfl) (by kernel_rfl) (by kernel_rfl) (fun _ _ _ h => h) (by rfl) ?_ hHeld ?_
              rotate_left
              · (intro w hSw; (try dsimp only at hSw); go_simp; try with_reducible rfl)
              try simp only [Act.put, List.setIfInBounds_toArray, List.set_cons_zero, List.set_cons_succ]
              refine held_take 5 ?_ rfl (by kernel_rfl) (by kernel_rfl) (by kernel_rfl) (fun _ _ _ h => h) (by rfl) ?_ hHeld ?_
              rotate_left
              · (intro w hSw; (try dsimp only at hSw); go_simp; try with_reducible rfl)
              try simp only [Act.put, List.setIfInBounds_toArray, List.set_cons_zero, List.set_cons_succ]
              refine held_skip 6 rfl (by kernel_rfl) (by kernel_rfl) (by kernel_rfl) (fun _ _ _ h => h) (by rfl) hHeld ?_
              try simp only [Act.put, List.setIfInBounds_toArray, List.set_cons_zero, List.set_cons_succ]
              refine held_skip 7 rfl (by kernel_rfl) (by kernel_rfl) (by kernel_rfl) (fun _ _ _ h => h) (by rfl) hHeld ?_
              try simp only [Act.put, List.setIfInBounds_toArray, List.set_cons_zero, List.set_cons_succ]
              refine held_skip 8 rfl (by kernel_rfl) (by kernel_rfl) (by kernel_rfl) (fun _ _ _ h => h) (by rfl) hHeld ?_
              try simp only [Act.put, List.setIfInBounds_toArray, List.set_cons_zero, List.set_cons_succ]
              refine held_skip 9 rfl (by kernel_rfl) (by kernel_rfl) (by kernel_rfl) (fun _ _ _ h => h) (by rfl) hHeld ?_
              try simp only [Act.put, List.setIfInBounds_toArray, List.set_cons_zero, List.set_cons_succ]
              refine held_skip 10 rfl (by kernel_rfl) (by kernel_rfl) (by kernel_rfl) (fun _ _ _ h => h) (by rfl) hHeld ?_
              try simp only [Act.put, List.setIfInBounds_toArray, List.set_cons_zero, List.set_cons_succ]
              refine held_skip 11 rfl (by kernel_rfl) (by kernel_rfl) (by kernel_rfl) (fun _ _ _ h => h) (by rfl) hHeld ?_
              try simp only [Act.put, List.setIfInBounds_toArray, List.set_cons_zero, List.set_cons_succ]
              refine held_skip 12 rfl (by kernel_rfl) (by kernel_rfl) (by kernel_rfl) (fun _ _ _ h => h) (by rfl) hHeld ?_
              try simp only [Act.put, List.setIfInBounds_toArray, List.set_cons_zero, List.set_cons_succ]
              refine held_skip 13 rfl (by kernel_rfl) (by kernel_rfl) (by kernel_rfl) (fun _ _ _ h => h) (by rfl) hHeld ?_
              try simp only [Act.put, List.setIfInBounds_toArray, List.set_cons_zero, List.set_cons_succ]
              refine held_take 14 ?_ rfl (by kernel_rfl) (by kernel_rfl) (by kernel_rfl) (fun _ _ _ h => h) (by rfl) ?_ hHeld ?_
              rotate_left
              · (intro w hSw; (try dsimp only at hSw); go_simp; try with_reducible rfl)
              try simp only [Act.put, List.setIfInBounds_toArray, List.set_cons_zero, List.set_cons_succ]
              refine held_take 15 ?_ rfl (by kernel_rfl) (by kernel_rfl) (by kernel_rfl) (fun _ _ _ h => h) (by rfl) ?_ hHeld ?_
              rotate_left
              · (intro w hSw; (try dsimp only at hSw); go_simp; try with_reducible rfl)
              try simp only [Act.put, List.setIfInBounds_toArray, List.set_cons_zero, List.set_cons_succ]
              refine held_take 16 ?_ rfl (by kernel_rfl) (by kernel_rfl) (by kernel_rfl) (fun _ _ _ h => h) (by rfl) ?_ hHeld ?_
              rotate_left
              · (intro w hSw; (try dsimp only at hSw); go_simp; try with_reducible rfl)
              try simp only [Act.put, List.setIfInBounds_toArray, List.set_cons_zero, List.set_cons_succ]
              refine held_take 17 ?_ rfl (by kernel_rfl) (by kernel_rfl) (by kernel_rfl) (fun _ _ _ h => h) (by rfl) ?_ hHeld ?_
              rotate_left
              · (intro w hSw; (try dsimp only at hSw); go_simp; try with_reducible rfl)
              try simp only [Act.put, List.setIfInBounds_toArray, List.set_cons_zero, List.set_cons_succ]
              refine held_take 19 ?_ rfl (by kernel_rfl) (by kernel_rfl) (by kernel_rfl) (fun _ _ _ h => h) (by rfl) ?_ hHeld ?_
              rotate_left
              · (intro w hSw; (try dsimp only at hSw); go_simp; try with_reducible rfl)
              try simp only [Act.put, List.setIfInBounds_toArray, List.set_cons_zero, List.set_cons_succ]
              refine held_one 18 rfl (by kernel_rfl) (by rfl) (fun K hK => ?_)
              go_simp
              refine (alive_any hok7 _ hT8).mono ?_
              rintro e w9 ⟨v9, rfl, hr9, hb9⟩
              obtain ⟨A9, c9, rfl, hs9, _⟩ := row_open hr9
              have hT9 := (Eff.of_below (S := fun _ => False) hb9).blk hT8 (fun h => h)
              have hR9 := (Eff.of_below (S := fun _ => False) hb9).blk hR8 (fun h => h)
              have hC9 := (Eff.of_below (S := fun _ => False) hb9).blk hC8 (fun h => h)
              have hrow9 := (Eff.of_below (S := fun _ => False) hb9).row hrow8 (fun _ _ h => h)
              have hB9 := hB8.trans (hb9.mono hB8.size)
              have cs9 := (hb9.cell (p := ⟨X + 1, 80, none⟩) hR8.lt).trans cs
              clear hT8 hR8 hC8 hrow8 hB8 hb9 hr9
              refine hK.out _ _ ?_ (fun hHeld2 => ?_)
              · (try dsimp only); (first | exact cs | exact cs9 | exact cs10 | exact cs11 | exact cs12)
              clear hK K hHeld
              have hHeld := hHeld2
              clear hHeld2
              try simp only [Act.put, List.setIfInBounds_toArray, List.set_cons_zero, List.set_cons_succ]
              refine held_one 20 rfl (by kernel_rfl) (by rfl) (fun K hK => ?_)
              go_simp
              refine (refAlive_any hok7 _ hR9).mono ?_
              rintro e w10 ⟨v10, rfl, hr10, hb10⟩
              obtain ⟨A10, c10, rfl, hs10, _⟩ := row_open hr10
              have hT10 := (Eff.of_below (S := fun _ => False) hb10).blk hT9 (fun h => h)
              have hR10 := (Eff.of_below (S := fun _ => False) hb10).blk hR9 (fun h => h)
              have hC10 := (Eff.of_below (S := fun _ => False) hb10).blk hC9 (fun h => h)
              have hrow10 := (Eff.of_below (S := fun _ => False) hb10).row hrow9 (fun _ _ h => h)
              have hB10 := hB9.trans (hb10.mono hB9.size)
              have hs9' := hs9.eff (Eff.of_below (S := fun _ => False) hb10) (fun _ _ h => h)
              have cs10 := (hb10.cell (p := ⟨X + 1, 80, none⟩) hR9.lt).trans cs9
              clear hT9 hR9 hC9 hrow9 hB9 hb10 hr10 hs9
              refine hK.out _ _ ?_ (fun hHeld2 => ?_)
              · (try dsimp only); (first | exact cs | exact cs9 | exact cs10 | exact cs11 | exact cs12)
              clear hK K hHeld
              have hHeld := hHeld2
              clear hHeld2
              try simp only [Act.put, List.setIfInBounds_toArray, List.set_cons_zero, List.set_cons_succ]
              refine held_one 21 rfl (by kernel_rfl) (by rfl) (fun K hK => ?_)
              go_simp
              refine (sameInts_same A9 A10 c9 c10 t7.alive _ hs9' hs10 (Nat.le_trans hal7 (by omega))).mono ?_
              rintro e w' ⟨rfl, n1, rfl⟩
              have hT11 := hT10.drewN n1
              have hC11 := hC10.drewN n1
              have hrow11 : (w10.drewN n1).ownsRow (C + 1) 3 1 v6 t.alive.length (t.alive.map (Value.int .i64)) := hrow10
              have hB11 := below_drewN hB10 n1
              have cs11 : (w10.drewN n1).cell? ⟨X + 1, 80, none⟩ = some (.int .i64 t7.seen) := cs10
              clear hs9' hs10
              refine hK.out _ _ ?_ (fun hHeld2 => ?_)
              · (try dsimp only); (first | exact cs | exact cs9 | exact cs10 | exact cs11 | exact cs12)
              clear hK K hHeld
              have hHeld := hHeld2
              clear hHeld2
              try simp only [Act.put, List.setIfInBounds_toArray, List.set_cons_zero, List.set_cons_succ]
              refine held_take 22 ?_ rfl (by kernel_rfl) (by kernel_rfl) (by kernel_rfl) (fun _ _ _ h => h) (by rfl) ?_ hHeld ?_
              rotate_left
              · (intro w hSw; (try dsimp only at hSw); go_simp; try with_reducible rfl)
              try simp only [Act.put, List.setIfInBounds_toArray, List.set_cons_zero, List.set_cons_succ]
              refine held_take 23 ?_ rfl (by kernel_rfl) (by kernel_rfl) (by kernel_rfl) (fun _ _ _ h => h) (by rfl) ?_ hHeld ?_
              rotate_left
              · (intro w hSw; (try dsimp only at hSw); go_simp; try with_reducible rfl)
              try simp only [Act.put, List.setIfInBounds_toArray, List.set_cons_zero, List.set_cons_succ]
              refine held_take 24 ?_ rfl (by kernel_rfl) (by kernel_rfl) (by kernel_rfl) (fun _ _ _ h => h) (by rfl) ?_ hHeld ?_
              rotate_left
              · (intro w hSw; (try dsimp only at hSw); go_simp; try with_reducible rfl)
              try simp only [Act.put, List.setIfInBounds_toArray, List.set_cons_zero, List.set_cons_succ]
              refine held_take 25 ?_ rfl (by kernel_rfl) (by kernel_rfl) (by kernel_rfl) (fun _ _ _ h => h) (by rfl) ?_ hHeld ?_
              rotate_left
              · (intro w hSw; (try dsimp only at hSw); go_simp; try with_reducible rfl)
              try simp only [Act.put, List.setIfInBounds_toArray, List.set_cons_zero, List.set_cons_succ]
              refine held_take 27 ?_ rfl (by kernel_rfl) (by kernel_rfl) (by kernel_rfl) (fun _ _ _ h => h) (by rfl) ?_ hHeld ?_
              rotate_left
              · (intro w hSw; (try dsimp only at hSw); go_simp; try with_reducible rfl)
              try simp only [Act.put, List.setIfInBounds_toArray, List.set_cons_zero, List.set_cons_succ]
              refine held_take 28 ?_ rfl (by kernel_rfl) (by kernel_rfl) (by kernel_rfl) (fun _ _ _ h => h) (by rfl) ?_ hHeld ?_
              rotate_left
              · (intro w hSw; (try dsimp only at hSw); go_simp; try with_reducible rfl)
              try simp only [Act.put, List.setIfInBounds_toArray, List.set_cons_zero, List.set_cons_succ]
              refine held_take 29 ?_ rfl (by kernel_rfl) (by kernel_rfl) (by kernel_rfl) (fun _ _ _ h => h) (by rfl) ?_ hHeld ?_
              rotate_left
              · (intro w hSw; (try dsimp only at hSw); go_simp; try with_reducible rfl)
              try simp only [Act.put, List.setIfInBounds_toArray, List.set_cons_zero, List.set_cons_succ]
              refine held_take 30 ?_ rfl (by kernel_rfl) (by kernel_rfl) (by kernel_rfl) (fun _ _ _ h => h) (by rfl) ?_ hHeld ?_
              rotate_left
              · (intro w hSw; (try dsimp only at hSw); go_simp; try with_reducible rfl)
              try simp only [Act.put, List.setIfInBounds_toArray, List.set_cons_zero, List.set_cons_succ]
              refine held_one 26 rfl (by kernel_rfl) (by rfl) (fun K hK => ?_)
              go_simp
              refine (seen_any hok7 _ hT11).mono ?_
              rintro e w' ⟨rfl, rfl⟩
              refine hK.out _ _ ?_ (fun hHeld2 => ?_)
              · (try dsimp only); (first | exact cs | exact cs9 | exact cs10 | exact cs11 | exact cs12)
              clear hK K hHeld
              have hHeld := hHeld2
              clear hHeld2
              try simp only [Act.put, List.setIfInBounds_toArray, List.set_cons_zero, List.set_cons_succ]
              refine held_take 31 ?_ rfl (by kernel_rfl) (by kernel_rfl) (by kernel_rfl) (fun _ _ _ h => h) (by rfl) ?_ hHeld ?_
              rotate_left
              · (intro w hSw; (try dsimp only at hSw); go_simp; try with_reducible rfl)
              try simp only [Act.put, List.setIfInBounds_toArray, List.set_cons_zero, List.set_cons_succ]
              refine held_take 32 ?_ rfl (by kernel_rfl) (by kernel_rfl) (by kernel_rfl) (fun _ _ _ h => h) (by rfl) ?_ hHeld ?_
              rotate_left
              · (intro w hSw; (try dsimp only at hSw); go_simp; try with_reducible rfl)
              try simp only [Act.put, List.setIfInBounds_toArray, List.set_cons_zero, List.set_cons_succ]
              refine held_take 33 ?_ rfl (by kernel_rfl) (by kernel_rfl) (by kernel_rfl) (fun _ _ _ h => h) (by rfl) ?_ hHeld ?_
              rotate_left
              · (intro w hSw; (try dsimp only at hSw); go_simp; try with_reducible rfl)
              try simp only [Act.put, List.setIfInBounds_toArray, List.set_cons_zero, List.set_cons_succ]
              refine held_take 34 ?_ rfl (by kernel_rfl) (by kernel_rfl) (by kernel_rfl) (fun _ _ _ h => h) (by rfl) ?_ hHeld ?_
              rotate_left
              · (intro w hSw; (try dsimp only at hSw); go_simp; try with_reducible rfl)
              try simp only [Act.put, List.setIfInBounds_toArray, List.set_cons_zero, List.set_cons_succ]
              refine held_take 36 ?_ rfl (by kernel_rfl) (by kernel_rfl) (by kernel_rfl) (fun _ _ _ h => h) (by rfl) ?_ hHeld ?_
              rotate_left
              · (intro w hSw; (try dsimp only at hSw); go_simp; try with_reducible rfl)
              try simp only [Act.put, List.setIfInBounds_toArray, List.set_cons_zero, List.set_cons_succ]
              refine held_one 35 rfl (by kernel_rfl) (by rfl) (fun K hK => ?_)
              go_simp
              refine (alive_any hok _ hC11).mono ?_
              rintro e w12 ⟨v12, rfl, hr12, hb12⟩
              obtain ⟨A12, c12, rfl, hs12, _⟩ := row_open hr12
              have hT12 := (Eff.of_below (S := fun _ => False) hb12).blk hT11 (fun h => h)
              have hR12 := (Eff.of_below (S := fun _ => False) hb12).blk (hR10.drewN n1) (fun h => h)
              have hrow12 := (Eff.of_below (S := fun _ => False) hb12).row hrow11 (fun _ _ h => h)
              have hB12 := hB11.trans (hb12.mono hB11.size)
              obtain ⟨A13, c13, rfl, hs13, _⟩ := row_open hrow12
              have cs12 := (hb12.cell (p := ⟨X + 1, 80, none⟩) hR10.lt).trans cs11
              refine hK.out _ _ ?_ (fun hHeld2 => ?_)
              · (try dsimp only); (first | exact cs | exact cs9 | exact cs10 | exact cs11 | exact cs12)
              clear hK K hHeld
              have hHeld := hHeld2
              clear hHeld2
              try simp only [Act.put, List.setIfInBounds_toArray, List.set_cons_zero, List.set_cons_succ]
              refine held_one 37 rfl (by kernel_rfl) (by rfl) (fun K hK => ?_)
              go_simp
              refine (sameInts_same A12 A13 c12 c13 t.alive _ hs12 hs13 (Nat.le_trans hal (by omega))).mono ?_
              rintro e w' ⟨rfl, n2, rfl⟩
              refine hK.out _ _ ?_ (fun hHeld2 => ?_)
              · (try dsimp only); (first | exact cs | exact cs9 | exact cs10 | exact cs11 | exact cs12)
              clear hK K hHeld
              have hHeld := hHeld2
              clear hHeld2
              try simp only [Act.put, List.setIfInBounds_toArray, List.set_cons_zero, List.set_cons_succ]
              refine held_take 38 ?_ rfl (by kernel_rfl) (by kernel_rfl) (by kernel_rfl) (fun _ _ _ h => h) (by rfl) ?_ hHeld ?_
              rotate_left
              · (intro w hSw; (try dsimp only at hSw); go_simp; try with_reducible rfl)
              try simp only [Act.put, List.setIfInBounds_toArray, List.set_cons_zero, List.set_cons_succ]
              refine held_take 39 ?_ rfl (by kernel_rfl) (by kernel_rfl) (by kernel_rfl) (fun _ _ _ h => h) (by rfl) ?_ hHeld ?_
              rotate_left
              · (intro w hSw; (try dsimp only at hSw); go_simp; try with_reducible rfl)
              try simp only [Act.put, List.setIfInBounds_toArray, List.set_cons_zero, List.set_cons_succ]
              refine wpAnyH_done (by kernel_rfl) ?_ _
              clear hHeld
              go_wp2_with fail
              go_roundw
              case rel => unfold PlaysRel; exact ⟨k + 1, t7, by omega, by go_num, hok7, hT12.drewN n2, hR12.drewN n2, below_drewN hB12 n2⟩
              case measure => simp [intOf]; omega
          · have h1 : t7.has ask = false := by
              simp only [Tab.has, Bool.and_eq_false_iff, decide_eq_false_iff_not]
              omega
            have h2 : t7.lifeOf ask = 0 := by simp [Tab.lifeOf, h1]
            have hne2 : (t7.seen != t7.seen) = false := by simp
            rw [h1, h2]
            clear h1 h2
            by_cases hneg : ask < 0
            · clear hin
              go_wp2_with fail
              refine wp_region_held_drew (S := fun w' => w'.cell? ⟨X + 1, 80, none⟩ = some (.int .i64 t7.seen)) (by kernel_rfl) ?_ (fun hHeld => ?_)
              · (try dsimp only); (first | exact cs | exact cs9 | exact cs10 | exact cs11 | exact cs12)
              refine held_take 0 ?_ rfl (by kernel_rfl) (by kernel_rfl) (by kernel_rfl) (fun _ _ _ h => h) (by rfl) ?_ hHeld ?_
              rotate_left
              · (intro w hSw; (try dsimp only at hSw); go_simp; try with_reducible rfl)
              try simp only [Act.put, List.setIfInBounds_toArray, List.set_cons_zero, List.set_cons_succ]
              refine held_take 1 ?_ rfl (by kernel_rfl) (by kernel_rfl) (by kernel_rfl) (fun _ _ _ h => h) (by rfl) ?_ hHeld ?_
              rotate_left
              · (intro w hSw; (try dsimp only at hSw); go_simp; try with_reducible rfl)
              try simp only [Act.put, List.setIfInBounds_toArray, List.set_cons_zero, List.set_cons_succ]
              refine held_take 2 ?_ rfl (by kernel_rfl) (by kernel_rfl) (by kernel_rfl) (fun _ _ _ h => h) (by rfl) ?_ hHeld ?_
              rotate_left
              · (intro w hSw; (try dsimp only at hSw); go_simp; try with_reducible rfl)
              try simp only [Act.put, List.setIfInBounds_toArray, List.set_cons_zero, List.set_cons_succ]
              refine held_take 3 ?_ rfl (by kernel_rfl) (by kernel_rfl) (by kernel_rfl) (fun _ _ _ h => h) (by rfl) ?_ hHeld ?_
              rotate_left
              · (intro w hSw; (try dsimp only at hSw); go_simp; try with_reducible rfl)
              try simp only [Act.put, List.setIfInBounds_toArray, List.set_cons_zero, List.set_cons_succ]
              refine held_take 4 ?_ rfl (by kernel_rfl) (by kernel_rfl) (by kernel_rfl) (fun _ _ _ h => h) (by rfl) ?_ hHeld ?_
              rotate_left
              · (intro w hSw; (try dsimp only at hSw); go_simp; try with_reducible rfl)
              try simp only [Act.put, List.setIfInBounds_toArray, List.set_cons_zero, List.set_cons_succ]
              refine held_take 5 ?_ rfl (by kernel_rfl) (by kernel_rfl) (by kernel_rfl) (fun _ _ _ h => h) (by rfl) ?_ hHeld ?_
              rotate_left
              · (intro w hSw; (try dsimp only at hSw); go_simp; try with_reducible rfl)
              try simp only [Act.put, List.setIfInBounds_toArray, List.set_cons_zero, List.set_cons_succ]
              refine held_skip 6 rfl (by kernel_rfl) (by kernel_rfl) (by kernel_rfl) (fun _ _ _ h => h) (by rfl) hHeld ?_
              try simp only [Act.put, List.setIfInBounds_toArray, List.set_cons_zero, List.set_cons_succ]
              refine held_skip 7 rfl (by kernel_rfl) (by kernel_rfl) (by kernel_rfl) (fun _ _ _ h => h) (by rfl) hHeld ?_
              try simp only [Act.put, List.setIfInBounds_toArray, List.set_cons_zero, List.set_cons_succ]
              refine held_skip 8 rfl (by kernel_rfl) (by kernel_rfl) (by kernel_rfl) (fun _ _ _ h => h) (by rfl) hHeld ?_
              try simp only [Act.put, List.setIfInBounds_toArray, List.set_cons_zero, List.set_cons_succ]
              refine held_skip 9 rfl (by kernel_rfl) (by kernel_rfl) (by kernel_rfl) (fun _ _ _ h => h) (by rfl) hHeld ?_
              try simp only [Act.put, List.setIfInBounds_toArray, List.set_cons_zero, List.set_cons_succ]
              refine held_skip 10 rfl (by kernel_rfl) (by kernel_rfl) (by kernel_rfl) (fun _ _ _ h => h) (by rfl) hHeld ?_
              try simp only [Act.put, List.setIfInBounds_toArray, List.set_cons_zero, List.set_cons_succ]
              refine held_skip 11 rfl (by kernel_rfl) (by kernel_rfl) (by kernel_rfl) (fun _ _ _ h => h) (by rfl) hHeld ?_
              try simp only [Act.put, List.setIfInBounds_toArray, List.set_cons_zero, List.set_cons_succ]
              refine held_skip 12 rfl (by kernel_rfl) (by kernel_rfl) (by kernel_rfl) (fun _ _ _ h => h) (by rfl) hHeld ?_
              try simp only [Act.put, List.setIfInBounds_toArray, List.set_cons_zero, List.set_cons_succ]
              refine held_skip 13 rfl (by kernel_rfl) (by kernel_rfl) (by kernel_rfl) (fun _ _ _ h => h) (by rfl) hHeld ?_
              try simp only [Act.put, List.setIfInBounds_toArray, List.set_cons_zero, List.set_cons_succ]
              refine held_take 14 ?_ rfl (by kernel_rfl) (by kernel_rfl) (by kernel_rfl) (fun _ _ _ h => h) (by rfl) ?_ hHeld ?_
              rotate_left
              · (intro w hSw; (try dsimp only at hSw); go_simp; try with_reducible rfl)
              try simp only [Act.put, List.setIfInBounds_toArray, List.set_cons_zero, List.set_cons_succ]
              refine held_take 15 ?_ rfl (by kernel_rfl) (by kernel_rfl) (by kernel_rfl) (fun _ _ _ h => h) (by rfl) ?_ hHeld ?_
              rotate_left
              · (intro w hSw; (try dsimp only at hSw); go_simp; try with_reducible rfl)
              try simp only [Act.put, List.setIfInBounds_toArray, List.set_cons_zero, List.set_cons_succ]
              refine held_take 16 ?_ rfl (by kernel_rfl) (by kernel_rfl) (by kernel_rfl) (fun _ _ _ h => h) (by rfl) ?_ hHeld ?_
              rotate_left
              · (intro w hSw; (try dsimp only at hSw); go_simp; try with_reducible rfl)
              try simp only [Act.put, List.setIfInBounds_toArray, List.set_cons_zero, List.set_cons_succ]
              refine held_take 17 ?_ rfl (by kernel_rfl) (by kernel_rfl) (by kernel_rfl) (fun _ _ _ h => h) (by rfl) ?_ hHeld ?_
              rotate_left
              · (intro w hSw; (try dsimp only at hSw); go_simp; try with_reducible rfl)
              try simp only [Act.put, List.setIfInBounds_toArray, List.set_cons_zero, List.set_cons_succ]
              refine held_take 19 ?_ rfl (by kernel_rfl) (by kernel_rfl) (by kernel_rfl) (fun _ _ _ h => h) (by rfl) ?_ hHeld ?_
              rotate_left
              · (intro w hSw; (try dsimp only at hSw); go_simp; try with_reducible rfl)
              try simp only [Act.put, List.setIfInBounds_toArray, List.set_cons_zero, List.set_cons_succ]
              refine held_one 18 rfl (by kernel_rfl) (by rfl) (fun K hK => ?_)
              go_simp
              refine (alive_any hok7 _ hT8).mono ?_
              rintro e w9 ⟨v9, rfl, hr9, hb9⟩
              obtain ⟨A9, c9, rfl, hs9, _⟩ := row_open hr9
              have hT9 := (Eff.of_below (S := fun _ => False) hb9).blk hT8 (fun h => h)
              have hR9 := (Eff.of_below (S := fun _ => False) hb9).blk hR8 (fun h => h)
              have hC9 := (Eff.of_below (S := fun _ => False) hb9).blk hC8 (fun h => h)
              have hrow9 := (Eff.of_below (S := fun _ => False) hb9).row hrow8 (fun _ _ h => h)
              have hB9 := hB8.trans (hb9.mono hB8.size)
              have cs9 := (hb9.cell (p := ⟨X + 1, 80, none⟩) hR8.lt).trans cs
              clear hT8 hR8 hC8 hrow8 hB8 hb9 hr9
              refine hK.out _ _ ?_ (fun hHeld2 => ?_)
              · (try dsimp only); (first | exact cs | exact cs9 | exact cs10 | exact cs11 | exact cs12)
              clear hK K hHeld
              have hHeld := hHeld2
              clear hHeld2
              try simp only [Act.put, List.setIfInBounds_toArray, List.set_cons_zero, List.set_cons_succ]
              refine held_one 20 rfl (by kernel_rfl) (by rfl) (fun K hK => ?_)
              go_simp
              refine (refAlive_any hok7 _ hR9).mono ?_
              rintro e w10 ⟨v10, rfl, hr10, hb10⟩
              obtain ⟨A10, c10, rfl, hs10, _⟩ := row_open hr10
              have hT10 := (Eff.of_below (S := fun _ => False) hb10).blk hT9 (fun h => h)
              have hR10 := (Eff.of_below (S := fun _ => False) hb10).blk hR9 (fun h => h)
              have hC10 := (Eff.of_below (S := fun _ => False) hb10).blk hC9 (fun h => h)
              have hrow10 := (Eff.of_below (S := fun _ => False) hb10).row hrow9 (fun _ _ h => h)
              have hB10 := hB9.trans (hb10.mono hB9.size)
              have hs9' := hs9.eff (Eff.of_below (S := fun _ => False) hb10) (fun _ _ h => h)
              have cs10 := (hb10.cell (p := ⟨X + 1, 80, none⟩) hR9.lt).trans cs9
              clear hT9 hR9 hC9 hrow9 hB9 hb10 hr10 hs9
              refine hK.out _ _ ?_ (fun hHeld2 => ?_)
              · (try dsimp only); (first | exact cs | exact cs9 | exact cs10 | exact cs11 | exact cs12)
              clear hK K hHeld
              have hHeld := hHeld2
              clear hHeld2
              try simp only [Act.put, List.setIfInBounds_toArray, List.set_cons_zero, List.set_cons_succ]
              refine held_one 21 rfl (by kernel_rfl) (by rfl) (fun K hK => ?_)
              go_simp
              refine (sameInts_same A9 A10 c9 c10 t7.alive _ hs9' hs10 (Nat.le_trans hal7 (by omega))).mono ?_
              rintro e w' ⟨rfl, n1, rfl⟩
              have hT11 := hT10.drewN n1
              have hC11 := hC10.drewN n1
              have hrow11 : (w10.drewN n1).ownsRow (C + 1) 3 1 v6 t.alive.length (t.alive.map (Value.int .i64)) := hrow10
              have hB11 := below_drewN hB10 n1
              have cs11 : (w10.drewN n1).cell? ⟨X + 1, 80, none⟩ = some (.int .i64 t7.seen) := cs10
              clear hs9' hs10
              refine hK.out _ _ ?_ (fun hHeld2 => ?_)
              · (try dsimp only); (first | exact cs | exact cs9 | exact cs10 | exact cs11 | exact cs12)
              clear hK K hHeld
              have hHeld := hHeld2
              clear hHeld2
              try simp only [Act.put, List.setIfInBounds_toArray, List.set_cons_zero, List.set_cons_succ]
              refine held_take 22 ?_ rfl (by kernel_rfl) (by kernel_rfl) (by kernel_rfl) (fun _ _ _ h => h) (by rfl) ?_ hHeld ?_
              rotate_left
              · (intro w hSw; (try dsimp only at hSw); go_simp; try with_reducible rfl)
              try simp only [Act.put, List.setIfInBounds_toArray, List.set_cons_zero, List.set_cons_succ]
              refine held_take 23 ?_ rfl (by kernel_rfl) (by kernel_rfl) (by kernel_rfl) (fun _ _ _ h => h) (by rfl) ?_ hHeld ?_
              rotate_left
              · (intro w hSw; (try dsimp only at hSw); go_simp; try with_reducible rfl)
              try simp only [Act.put, List.setIfInBounds_toArray, List.set_cons_zero, List.set_cons_succ]
              refine held_take 24 ?_ rfl (by kernel_rfl) (by kernel_rfl) (by kernel_rfl) (fun _ _ _ h => h) (by rfl) ?_ hHeld ?_
              rotate_left
              · (intro w hSw; (try dsimp only at hSw); go_simp; try with_reducible rfl)
              try simp only [Act.put, List.setIfInBounds_toArray, List.set_cons_zero, List.set_cons_succ]
              refine held_take 25 ?_ rfl (by kernel_rfl) (by kernel_rfl) (by kernel_rfl) (fun _ _ _ h => h) (by rfl) ?_ hHeld ?_
              rotate_left
              · (intro w hSw; (try dsimp only at hSw); go_simp; try with_reducible rfl)
              try simp only [Act.put, List.setIfInBounds_toArray, List.set_cons_zero, List.set_cons_succ]
              refine held_take 27 ?_ rfl (by kernel_rfl) (by kernel_rfl) (by kernel_rfl) (fun _ _ _ h => h) (by rfl) ?_ hHeld ?_
              rotate_left
              · (intro w hSw; (try dsimp only at hSw); go_simp; try with_reducible rfl)
              try simp only [Act.put, List.setIfInBounds_toArray, List.set_cons_zero, List.set_cons_succ]
              refine held_take 28 ?_ rfl (by kernel_rfl) (by kernel_rfl) (by kernel_rfl) (fun _ _ _ h => h) (by rfl) ?_ hHeld ?_
              rotate_left
              · (intro w hSw; (try dsimp only at hSw); go_simp; try with_reducible rfl)
              try simp only [Act.put, List.setIfInBounds_toArray, List.set_cons_zero, List.set_cons_succ]
              refine held_take 29 ?_ rfl (by kernel_rfl) (by kernel_rfl) (by kernel_rfl) (fun _ _ _ h => h) (by rfl) ?_ hHeld ?_
              rotate_left
              · (intro w hSw; (try dsimp only at hSw); go_simp; try with_reducible rfl)
              try simp only [Act.put, List.setIfInBounds_toArray, List.set_cons_zero, List.set_cons_succ]
              refine held_take 30 ?_ rfl (by kernel_rfl) (by kernel_rfl) (by kernel_rfl) (fun _ _ _ h => h) (by rfl) ?_ hHeld ?_
              rotate_left
              · (intro w hSw; (try dsimp only at hSw); go_simp; try with_reducible rfl)
              try simp only [Act.put, List.setIfInBounds_toArray, List.set_cons_zero, List.set_cons_succ]
              refine held_one 26 rfl (by kernel_rfl) (by rfl) (fun K hK => ?_)
              go_simp
              refine (seen_any hok7 _ hT11).mono ?_
              rintro e w' ⟨rfl, rfl⟩
              refine hK.out _ _ ?_ (fun hHeld2 => ?_)
              · (try dsimp only); (first | exact cs | exact cs9 | exact cs10 | exact cs11 | exact cs12)
              clear hK K hHeld
              have hHeld := hHeld2
              clear hHeld2
              try simp only [Act.put, List.setIfInBounds_toArray, List.set_cons_zero, List.set_cons_succ]
              refine held_take 31 ?_ rfl (by kernel_rfl) (by kernel_rfl) (by kernel_rfl) (fun _ _ _ h => h) (by rfl) ?_ hHeld ?_
              rotate_left
              · (intro w hSw; (try dsimp only at hSw); go_simp; try with_reducible rfl)
              try simp only [Act.put, List.setIfInBounds_toArray, List.set_cons_zero, List.set_cons_succ]
              refine held_take 32 ?_ rfl (by kernel_rfl) (by kernel_rfl) (by kernel_rfl) (fun _ _ _ h => h) (by rfl) ?_ hHeld ?_
              rotate_left
              · (intro w hSw; (try dsimp only at hSw); go_simp; try with_reducible rfl)
              try simp only [Act.put, List.setIfInBounds_toArray, List.set_cons_zero, List.set_cons_succ]
              refine held_take 33 ?_ rfl (by kernel_rfl) (by kernel_rfl) (by kernel_rfl) (fun _ _ _ h => h) (by rfl) ?_ hHeld ?_
              rotate_left
              · (intro w hSw; (try dsimp only at hSw); go_simp; try with_reducible rfl)
              try simp only [Act.put, List.setIfInBounds_toArray, List.set_cons_zero, List.set_cons_succ]
              refine held_take 34 ?_ rfl (by kernel_rfl) (by kernel_rfl) (by kernel_rfl) (fun _ _ _ h => h) (by rfl) ?_ hHeld ?_
              rotate_left
              · (intro w hSw; (try dsimp only at hSw); go_simp; try with_reducible rfl)
              try simp only [Act.put, List.setIfInBounds_toArray, List.set_cons_zero, List.set_cons_succ]
              refine held_take 36 ?_ rfl (by kernel_rfl) (by kernel_rfl) (by kernel_rfl) (fun _ _ _ h => h) (by rfl) ?_ hHeld ?_
              rotate_left
              · (intro w hSw; (try dsimp only at hSw); go_simp; try with_reducible rfl)
              try simp only [Act.put, List.setIfInBounds_toArray, List.set_cons_zero, List.set_cons_succ]
              refine held_one 35 rfl (by kernel_rfl) (by rfl) (fun K hK => ?_)
              go_simp
              refine (alive_any hok _ hC11).mono ?_
              rintro e w12 ⟨v12, rfl, hr12, hb12⟩
              obtain ⟨A12, c12, rfl, hs12, _⟩ := row_open hr12
              have hT12 := (Eff.of_below (S := fun _ => False) hb12).blk hT11 (fun h => h)
              have hR12 := (Eff.of_below (S := fun _ => False) hb12).blk (hR10.drewN n1) (fun h => h)
              have hrow12 := (Eff.of_below (S := fun _ => False) hb12).row hrow11 (fun _ _ h => h)
              have hB12 := hB11.trans (hb12.mono hB11.size)
              obtain ⟨A13, c13, rfl, hs13, _⟩ := row_open hrow12
              have cs12 := (hb12.cell (p := ⟨X + 1, 80, none⟩) hR10.lt).trans cs11
              refine hK.out _ _ ?_ (fun hHeld2 => ?_)
              · (try dsimp only); (first | exact cs | exact cs9 | exact cs10 | exact cs11 | exact cs12)
              clear hK K hHeld
              have hHeld := hHeld2
              clear hHeld2
              try simp only [Act.put, List.setIfInBounds_toArray, List.set_cons_zero, List.set_cons_succ]
              refine held_one 37 rfl (by kernel_rfl) (by rfl) (fun K hK => ?_)
              go_simp
              refine (sameInts_same A12 A13 c12 c13 t.alive _ hs12 hs13 (Nat.le_trans hal (by omega))).mono ?_
              rintro e w' ⟨rfl, n2, rfl⟩
              refine hK.out _ _ ?_ (fun hHeld2 => ?_)
              · (try dsimp only); (first | exact cs | exact cs9 | exact cs10 | exact cs11 | exact cs12)
              clear hK K hHeld
              have hHeld := hHeld2
              clear hHeld2
              try simp only [Act.put, List.setIfInBounds_toArray, List.set_cons_zero, List.set_cons_succ]
              refine held_take 38 ?_ rfl (by kernel_rfl) (by kernel_rfl) (by kernel_rfl) (fun _ _ _ h => h) (by rfl) ?_ hHeld ?_
              rotate_left
              · (intro w hSw; (try dsimp only at hSw); go_simp; try with_reducible rfl)
              try simp only [Act.put, List.setIfInBounds_toArray, List.set_cons_zero, List.set_cons_succ]
              refine held_take 39 ?_ rfl (by kernel_rfl) (by kernel_rfl) (by kernel_rfl) (fun _ _ _ h => h) (by rfl) ?_ hHeld ?_
              rotate_left
              · (intro w hSw; (try dsimp only at hSw); go_simp; try with_reducible rfl)
              try simp only [Act.put, List.setIfInBounds_toArray, List.set_cons_zero, List.set_cons_succ]
              refine wpAnyH_done (by kernel_rfl) ?_ _
              clear hHeld
              go_wp2_with fail
              go_roundw
              case rel => unfold PlaysRel; exact ⟨k + 1, t7, by omega, by go_num, hok7, hT12.drewN n2, hR12.drewN n2, below_drewN hB12 n2⟩
              case measure => simp [intOf]; omega
            · have hbig : 16 ≤ ask := by omega
              clear hin
              go_wp2_with fail
              refine wp_region_held_drew (S := fun w' => w'.cell? ⟨X + 1, 80, none⟩ = some (.int .i64 t7.seen)) (by kernel_rfl) ?_ (fun hHeld => ?_)
              · (try dsimp only); (first | exact cs | exact cs9 | exact cs10 | exact cs11 | exact cs12)
              refine held_take 0 ?_ rfl (by kernel_rfl) (by kernel_rfl) (by kernel_rfl) (fun _ _ _ h => h) (by rfl) ?_ hHeld ?_
              rotate_left
              · (intro w hSw; (try dsimp only at hSw); go_simp; try with_reducible rfl)
              try simp only [Act.put, List.setIfInBounds_toArray, List.set_cons_zero, List.set_cons_succ]
              refine held_take 1 ?_ rfl (by kernel_rfl) (by kernel_rfl) (by kernel_rfl) (fun _ _ _ h => h) (by rfl) ?_ hHeld ?_
              rotate_left
              · (intro w hSw; (try dsimp only at hSw); go_simp; try with_reducible rfl)
              try simp only [Act.put, List.setIfInBounds_toArray, List.set_cons_zero, List.set_cons_succ]
              refine held_take 2 ?_ rfl (by kernel_rfl) (by kernel_rfl) (by kernel_rfl) (fun _ _ _ h => h) (by rfl) ?_ hHeld ?_
              rotate_left
              · (intro w hSw; (try dsimp only at hSw); go_simp; try with_reducible rfl)
              try simp only [Act.put, List.setIfInBounds_toArray, List.set_cons_zero, List.set_cons_succ]
              refine held_take 3 ?_ rfl (by kernel_rfl) (by kernel_rfl) (by kernel_rfl) (fun _ _ _ h => h) (by rfl) ?_ hHeld ?_
              rotate_left
              · (intro w hSw; (try dsimp only at hSw); go_simp; try with_reducible rfl)
              try simp only [Act.put, List.setIfInBounds_toArray, List.set_cons_zero, List.set_cons_succ]
              refine held_take 4 ?_ rfl (by kernel_rfl) (by kernel_rfl) (by kernel_rfl) (fun _ _ _ h => h) (by rfl) ?_ hHeld ?_
              rotate_left
              · (intro w hSw; (try dsimp only at hSw); go_simp; try with_reducible rfl)
              try simp only [Act.put, List.setIfInBounds_toArray, List.set_cons_zero, List.set_cons_succ]
              refine held_take 5 ?_ rfl (by kernel_rfl) (by kernel_rfl) (by kernel_rfl) (fun _ _ _ h => h) (by rfl) ?_ hHeld ?_
              rotate_left
              · (intro w hSw; (try dsimp only at hSw); go_simp; try with_reducible rfl)
              try simp only [Act.put, List.setIfInBounds_toArray, List.set_cons_zero, List.set_cons_succ]
              refine held_skip 6 rfl (by kernel_rfl) (by kernel_rfl) (by kernel_rfl) (fun _ _ _ h => h) (by rfl) hHeld ?_
              try simp only [Act.put, List.setIfInBounds_toArray, List.set_cons_zero, List.set_cons_succ]
              refine held_skip 7 rfl (by kernel_rfl) (by kernel_rfl) (by kernel_rfl) (fun _ _ _ h => h) (by rfl) hHeld ?_
              try simp only [Act.put, List.setIfInBounds_toArray, List.set_cons_zero, List.set_cons_succ]
              refine held_skip 8 rfl (by kernel_rfl) (by kernel_rfl) (by kernel_rfl) (fun _ _ _ h => h) (by rfl) hHeld ?_
              try simp only [Act.put, List.setIfInBounds_toArray, List.set_cons_zero, List.set_cons_succ]
              refine held_skip 9 rfl (by kernel_rfl) (by kernel_rfl) (by kernel_rfl) (fun _ _ _ h => h) (by rfl) hHeld ?_
              try simp only [Act.put, List.setIfInBounds_toArray, List.set_cons_zero, List.set_cons_succ]
              refine held_skip 10 rfl (by kernel_rfl) (by kernel_rfl) (by kernel_rfl) (fun _ _ _ h => h) (by rfl) hHeld ?_
              try simp only [Act.put, List.setIfInBounds_toArray, List.set_cons_zero, List.set_cons_succ]
              refine held_skip 11 rfl (by kernel_rfl) (by kernel_rfl) (by kernel_rfl) (fun _ _ _ h => h) (by rfl) hHeld ?_
              try simp only [Act.put, List.setIfInBounds_toArray, List.set_cons_zero, List.set_cons_succ]
              refine held_skip 12 rfl (by kernel_rfl) (by kernel_rfl) (by kernel_rfl) (fun _ _ _ h => h) (by rfl) hHeld ?_
              try simp only [Act.put, List.setIfInBounds_toArray, List.set_cons_zero, List.set_cons_succ]
              refine held_skip 13 rfl (by kernel_rfl) (by kernel_rfl) (by kernel_rfl) (fun _ _ _ h => h) (by rfl) hHeld ?_
              try simp only [Act.put, List.setIfInBounds_toArray, List.set_cons_zero, List.set_cons_succ]
              refine held_take 14 ?_ rfl (by kernel_rfl) (by kernel_rfl) (by kernel_rfl) (fun _ _ _ h => h) (by rfl) ?_ hHeld ?_
              rotate_left
              · (intro w hSw; (try dsimp only at hSw); go_simp; try with_reducible rfl)
              try simp only [Act.put, List.setIfInBounds_toArray, List.set_cons_zero, List.set_cons_succ]
              refine held_take 15 ?_ rfl (by kernel_rfl) (by kernel_rfl) (by kernel_rfl) (fun _ _ _ h => h) (by rfl) ?_ hHeld ?_
              rotate_left
              · (intro w hSw; (try dsimp only at hSw); go_simp; try with_reducible rfl)
              try simp only [Act.put, List.setIfInBounds_toArray, List.set_cons_zero, List.set_cons_succ]
              refine held_take 16 ?_ rfl (by kernel_rfl) (by kernel_rfl) (by kernel_rfl) (fun _ _ _ h => h) (by rfl) ?_ hHeld ?_
              rotate_left
              · (intro w hSw; (try dsimp only at hSw); go_simp; try with_reducible rfl)
              try simp only [Act.put, List.setIfInBounds_toArray, List.set_cons_zero, List.set_cons_succ]
              refine held_take 17 ?_ rfl (by kernel_rfl) (by kernel_rfl) (by kernel_rfl) (fun _ _ _ h => h) (by rfl) ?_ hHeld ?_
              rotate_left
              · (intro w hSw; (try dsimp only at hSw); go_simp; try with_reducible rfl)
              try simp only [Act.put, List.setIfInBounds_toArray, List.set_cons_zero, List.set_cons_succ]
              refine held_take 19 ?_ rfl (by kernel_rfl) (by kernel_rfl) (by kernel_rfl) (fun _ _ _ h => h) (by rfl) ?_ hHeld ?_
              rotate_left
              · (intro w hSw; (try dsimp only at hSw); go_simp; try with_reducible rfl)
              try simp only [Act.put, List.setIfInBounds_toArray, List.set_cons_zero, List.set_cons_succ]
              refine held_one 18 rfl (by kernel_rfl) (by rfl) (fun K hK => ?_)
              go_simp
              refine (alive_any hok7 _ hT8).mono ?_
              rintro e w9 ⟨v9, rfl, hr9, hb9⟩
              obtain ⟨A9, c9, rfl, hs9, _⟩ := row_open hr9
              have hT9 := (Eff.of_below (S := fun _ => False) hb9).blk hT8 (fun h => h)
              have hR9 := (Eff.of_below (S := fun _ => False) hb9).blk hR8 (fun h => h)
              have hC9 := (Eff.of_below (S := fun _ => False) hb9).blk hC8 (fun h => h)
              have hrow9 := (Eff.of_below (S := fun _ => False) hb9).row hrow8 (fun _ _ h => h)
              have hB9 := hB8.trans (hb9.mono hB8.size)
              have cs9 := (hb9.cell (p := ⟨X + 1, 80, none⟩) hR8.lt).trans cs
              clear hT8 hR8 hC8 hrow8 hB8 hb9 hr9
              refine hK.out _ _ ?_ (fun hHeld2 => ?_)
              · (try dsimp only); (first | exact cs | exact cs9 | exact cs10 | exact cs11 | exact cs12)
              clear hK K hHeld
              have hHeld := hHeld2
              clear hHeld2
              try simp only [Act.put, List.setIfInBounds_toArray, List.set_cons_zero, List.set_cons_succ]
              refine held_one 20 rfl (by kernel_rfl) (by rfl) (fun K hK => ?_)
              go_simp
              refine (refAlive_any hok7 _ hR9).mono ?_
              rintro e w10 ⟨v10, rfl, hr10, hb10⟩
              obtain ⟨A10, c10, rfl, hs10, _⟩ := row_open hr10
              have hT10 := (Eff.of_below (S := fun _ => False) hb10).blk hT9 (fun h => h)
              have hR10 := (Eff.of_below (S := fun _ => False) hb10).blk hR9 (fun h => h)
              have hC10 := (Eff.of_below (S := fun _ => False) hb10).blk hC9 (fun h => h)
              have hrow10 := (Eff.of_below (S := fun _ => False) hb10).row hrow9 (fun _ _ h => h)
              have hB10 := hB9.trans (hb10.mono hB9.size)
              have hs9' := hs9.eff (Eff.of_below (S := fun _ => False) hb10) (fun _ _ h => h)
              have cs10 := (hb10.cell (p := ⟨X + 1, 80, none⟩) hR9.lt).trans cs9
              clear hT9 hR9 hC9 hrow9 hB9 hb10 hr10 hs9
              refine hK.out _ _ ?_ (fun hHeld2 => ?_)
              · (try dsimp only); (first | exact cs | exact cs9 | exact cs10 | exact cs11 | exact cs12)
              clear hK K hHeld
              have hHeld := hHeld2
              clear hHeld2
              try simp only [Act.put, List.setIfInBounds_toArray, List.set_cons_zero, List.set_cons_succ]
              refine held_one 21 rfl (by kernel_rfl) (by rfl) (fun K hK => ?_)
              go_simp
              refine (sameInts_same A9 A10 c9 c10 t7.alive _ hs9' hs10 (Nat.le_trans hal7 (by omega))).mono ?_
              rintro e w' ⟨rfl, n1, rfl⟩
              have hT11 := hT10.drewN n1
              have hC11 := hC10.drewN n1
              have hrow11 : (w10.drewN n1).ownsRow (C + 1) 3 1 v6 t.alive.length (t.alive.map (Value.int .i64)) := hrow10
              have hB11 := below_drewN hB10 n1
              have cs11 : (w10.drewN n1).cell? ⟨X + 1, 80, none⟩ = some (.int .i64 t7.seen) := cs10
              clear hs9' hs10
              refine hK.out _ _ ?_ (fun hHeld2 => ?_)
              · (try dsimp only); (first | exact cs | exact cs9 | exact cs10 | exact cs11 | exact cs12)
              clear hK K hHeld
              have hHeld := hHeld2
              clear hHeld2
              try simp only [Act.put, List.setIfInBounds_toArray, List.set_cons_zero, List.set_cons_succ]
              refine held_take 22 ?_ rfl (by kernel_rfl) (by kernel_rfl) (by kernel_rfl) (fun _ _ _ h => h) (by rfl) ?_ hHeld ?_
              rotate_left
              · (intro w hSw; (try dsimp only at hSw); go_simp; try with_reducible rfl)
              try simp only [Act.put, List.setIfInBounds_toArray, List.set_cons_zero, List.set_cons_succ]
              refine held_take 23 ?_ rfl (by kernel_rfl) (by kernel_rfl) (by kernel_rfl) (fun _ _ _ h => h) (by rfl) ?_ hHeld ?_
              rotate_left
              · (intro w hSw; (try dsimp only at hSw); go_simp; try with_reducible rfl)
              try simp only [Act.put, List.setIfInBounds_toArray, List.set_cons_zero, List.set_cons_succ]
              refine held_take 24 ?_ rfl (by kernel_rfl) (by kernel_rfl) (by kernel_rfl) (fun _ _ _ h => h) (by rfl) ?_ hHeld ?_
              rotate_left
              · (intro w hSw; (try dsimp only at hSw); go_simp; try with_reducible rfl)
              try simp only [Act.put, List.setIfInBounds_toArray, List.set_cons_zero, List.set_cons_succ]
              refine held_take 25 ?_ rfl (by kernel_rfl) (by kernel_rfl) (by kernel_rfl) (fun _ _ _ h => h) (by rfl) ?_ hHeld ?_
              rotate_left
              · (intro w hSw; (try dsimp only at hSw); go_simp; try with_reducible rfl)
              try simp only [Act.put, List.setIfInBounds_toArray, List.set_cons_zero, List.set_cons_succ]
              refine held_take 27 ?_ rfl (by kernel_rfl) (by kernel_rfl) (by kernel_rfl) (fun _ _ _ h => h) (by rfl) ?_ hHeld ?_
              rotate_left
              · (intro w hSw; (try dsimp only at hSw); go_simp; try with_reducible rfl)
              try simp only [Act.put, List.setIfInBounds_toArray, List.set_cons_zero, List.set_cons_succ]
              refine held_take 28 ?_ rfl (by kernel_rfl) (by kernel_rfl) (by kernel_rfl) (fun _ _ _ h => h) (by rfl) ?_ hHeld ?_
              rotate_left
              · (intro w hSw; (try dsimp only at hSw); go_simp; try with_reducible rfl)
              try simp only [Act.put, List.setIfInBounds_toArray, List.set_cons_zero, List.set_cons_succ]
              refine held_take 29 ?_ rfl (by kernel_rfl) (by kernel_rfl) (by kernel_rfl) (fun _ _ _ h => h) (by rfl) ?_ hHeld ?_
              rotate_left
              · (intro w hSw; (try dsimp only at hSw); go_simp; try with_reducible rfl)
              try simp only [Act.put, List.setIfInBounds_toArray, List.set_cons_zero, List.set_cons_succ]
              refine held_take 30 ?_ rfl (by kernel_rfl) (by kernel_rfl) (by kernel_rfl) (fun _ _ _ h => h) (by rfl) ?_ hHeld ?_
              rotate_left
              · (intro w hSw; (try dsimp only at hSw); go_simp; try with_reducible rfl)
              try simp only [Act.put, List.setIfInBounds_toArray, List.set_cons_zero, List.set_cons_succ]
              refine held_one 26 rfl (by kernel_rfl) (by rfl) (fun K hK => ?_)
              go_simp
              refine (seen_any hok7 _ hT11).mono ?_
              rintro e w' ⟨rfl, rfl⟩
              refine hK.out _ _ ?_ (fun hHeld2 => ?_)
              · (try dsimp only); (first | exact cs | exact cs9 | exact cs10 | exact cs11 | exact cs12)
              clear hK K hHeld
              have hHeld := hHeld2
              clear hHeld2
              try simp only [Act.put, List.setIfInBounds_toArray, List.set_cons_zero, List.set_cons_succ]
              refine held_take 31 ?_ rfl (by kernel_rfl) (by kernel_rfl) (by kernel_rfl) (fun _ _ _ h => h) (by rfl) ?_ hHeld ?_
              rotate_left
              · (intro w hSw; (try dsimp only at hSw); go_simp; try with_reducible rfl)
              try simp only [Act.put, List.setIfInBounds_toArray, List.set_cons_zero, List.set_cons_succ]
              refine held_take 32 ?_ rfl (by kernel_rfl) (by kernel_rfl) (by kernel_rfl) (fun _ _ _ h => h) (by rfl) ?_ hHeld ?_
              rotate_left
              · (intro w hSw; (try dsimp only at hSw); go_simp; try with_reducible rfl)
              try simp only [Act.put, List.setIfInBounds_toArray, List.set_cons_zero, List.set_cons_succ]
              refine held_take 33 ?_ rfl (by kernel_rfl) (by kernel_rfl) (by kernel_rfl) (fun _ _ _ h => h) (by rfl) ?_ hHeld ?_
              rotate_left
              · (intro w hSw; (try dsimp only at hSw); go_simp; try with_reducible rfl)
              try simp only [Act.put, List.setIfInBounds_toArray, List.set_cons_zero, List.set_cons_succ]
              refine held_take 34 ?_ rfl (by kernel_rfl) (by kernel_rfl) (by kernel_rfl) (fun _ _ _ h => h) (by rfl) ?_ hHeld ?_
              rotate_left
              · (intro w hSw; (try dsimp only at hSw); go_simp; try with_reducible rfl)
              try simp only [Act.put, List.setIfInBounds_toArray, List.set_cons_zero, List.set_cons_succ]
              refine held_take 36 ?_ rfl (by kernel_rfl) (by kernel_rfl) (by kernel_rfl) (fun _ _ _ h => h) (by rfl) ?_ hHeld ?_
              rotate_left
              · (intro w hSw; (try dsimp only at hSw); go_simp; try with_reducible rfl)
              try simp only [Act.put, List.setIfInBounds_toArray, List.set_cons_zero, List.set_cons_succ]
              refine held_one 35 rfl (by kernel_rfl) (by rfl) (fun K hK => ?_)
              go_simp
              refine (alive_any hok _ hC11).mono ?_
              rintro e w12 ⟨v12, rfl, hr12, hb12⟩
              obtain ⟨A12, c12, rfl, hs12, _⟩ := row_open hr12
              have hT12 := (Eff.of_below (S := fun _ => False) hb12).blk hT11 (fun h => h)
              have hR12 := (Eff.of_below (S := fun _ => False) hb12).blk (hR10.drewN n1) (fun h => h)
              have hrow12 := (Eff.of_below (S := fun _ => False) hb12).row hrow11 (fun _ _ h => h)
              have hB12 := hB11.trans (hb12.mono hB11.size)
              obtain ⟨A13, c13, rfl, hs13, _⟩ := row_open hrow12
              have cs12 := (hb12.cell (p := ⟨X + 1, 80, none⟩) hR10.lt).trans cs11
              refine hK.out _ _ ?_ (fun hHeld2 => ?_)
              · (try dsimp only); (first | exact cs | exact cs9 | exact cs10 | exact cs11 | exact cs12)
              clear hK K hHeld
              have hHeld := hHeld2
              clear hHeld2
              try simp only [Act.put, List.setIfInBounds_toArray, List.set_cons_zero, List.set_cons_succ]
              refine held_one 37 rfl (by kernel_rfl) (by rfl) (fun K hK => ?_)
              go_simp
              refine (sameInts_same A12 A13 c12 c13 t.alive _ hs12 hs13 (Nat.le_trans hal (by omega))).mono ?_
              rintro e w' ⟨rfl, n2, rfl⟩
              refine hK.out _ _ ?_ (fun hHeld2 => ?_)
              · (try dsimp only); (first | exact cs | exact cs9 | exact cs10 | exact cs11 | exact cs12)
              clear hK K hHeld
              have hHeld := hHeld2
              clear hHeld2
              try simp only [Act.put, List.setIfInBounds_toArray, List.set_cons_zero, List.set_cons_succ]
              refine held_take 38 ?_ rfl (by kernel_rfl) (by kernel_rfl) (by kernel_rfl) (fun _ _ _ h => h) (by rfl) ?_ hHeld ?_
              rotate_left
              · (intro w hSw; (try dsimp only at hSw); go_simp; try with_reducible rfl)
              try simp only [Act.put, List.setIfInBounds_toArray, List.set_cons_zero, List.set_cons_succ]
              refine held_take 39 ?_ rfl (by kernel_rfl) (by kernel_rfl) (by kernel_rfl) (fun _ _ _ h => h) (by rfl) ?_ hHeld ?_
              rotate_left
              · (intro w hSw; (try dsimp only at hSw); go_simp; try with_reducible rfl)
              try simp only [Act.put, List.setIfInBounds_toArray, List.set_cons_zero, List.set_cons_succ]
              refine wpAnyH_done (by kernel_rfl) ?_ _
              clear hHeld
              go_wp2_with fail
              go_roundw
              case rel => unfold PlaysRel; exact ⟨k + 1, t7, by omega, by go_num, hok7, hT12.drewN n2, hR12.drewN n2, below_drewN hB12 n2⟩
              case measure => simp [intOf]; omega
      · go_wp2
        go_ret
        exact ⟨rfl, hBl⟩
  · go_enter Try.func6, Try.ntmps6
    go_wp2_with fail
    refine (first_any _).mono ?_
    rintro e w1 ⟨rfl, hB1⟩
    go_wp2_with fail
    go_ret
    exact ⟨rfl, hB1⟩
end Go.Proofs.Ytlihiiaabfkhaaa
