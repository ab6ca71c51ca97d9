/- GateOnce: the walk: whatever tokens come, the Go text returns true. -/
import Derived.Test.YtioaapgpcpepmaaGateFirst
import Derived.Test.YtioaapgpcpepmaaGateOpen
import Derived.Test.YtioaapgpcpepmaaOncePure
namespace Go.Proofs.Ytioaapgpcpepmaa
open Go.RowKit
set_option linter.unusedSimpArgs false
set_option linter.unusedVariables false

theorem row_rings : RowT Try.prog 22 32 (.agg #[.int .i64 0, .int .i64 0, .int .i64 0, .slice none 0 0, .slice none 0 0]) 5 72 := ⟨by kernel_rfl, by kernel_rfl, by decide, by decide⟩
theorem rowsl {w : World} {B : Nat} {E : TypeId} {s n c : Nat} {A : Option Addr} {xs : List Value} (h : w.ownsRow B E s (.slice A n c) n xs) : Sl w A xs := by
  obtain ⟨A', c', hv, _, _, hs⟩ := Sl.row h
  simp at hv
  obtain ⟨rfl, _⟩ := hv
  exact hs
theorem ring_cells {w : World} {b o : Nat} {rs : List RingL} (hc : ∀ k, k < (rs.flatMap RingL.cells).length → w.cell? ⟨b, o + k, none⟩ = (rs.flatMap RingL.cells)[k]?) (k : Nat) (r : RingL) (hr : rs[k]? = some r) :
    w.cell? ⟨b, o + k * 5, none⟩ = some (.int .i64 r.c) ∧ w.cell? ⟨b, o + k * 5 + 1, none⟩ = some (.int .i64 r.f) ∧ w.cell? ⟨b, o + k * 5 + 2, none⟩ = some (.int .i64 r.hop) ∧
      w.cell? ⟨b, o + k * 5 + 3, none⟩ = some (.slice r.mA r.ms.length r.mC) ∧ w.cell? ⟨b, o + k * 5 + 4, none⟩ = some (.slice r.eA r.eN r.eC) := by
  have hk : k < rs.length := (List.getElem?_eq_some_iff.1 hr).1
  have h : ∀ j, j < 5 → w.cell? ⟨b, o + (k * 5 + j), none⟩ = r.cells[j]? := fun j hj => by
    rw [hc (k * 5 + j) (by rw [flat_length RingL.len]; omega)]
    have := flat_get RingL.len rs [] k j r hr hj
    simpa using this
  exact ⟨h 0 (by omega), h 1 (by omega), h 2 (by omega), h 3 (by omega), h 4 (by omega)⟩

theorem Blk.grown2 {w w' : World} {b : Nat} {cs : List Value} {E : TypeId} {g : Option Nat} (hb : Blk w b cs E) (h : w.grownBy w' g) (hn : g ≠ some b) : Blk w' b cs E := by
  have := h.block b hb.lt (fun e => hn e.symm)
  unfold Blk at *
  rw [this, hb]

def OnceOk (w : World) (g : Gt) (t : RingL) : Prop := UpTo t g.c g.f g.hop ∧ Sl w t.mA (t.ms.map (Value.int .i64)) ∧ t.ms.length ≤ 20
def OnceRel (w : World) (G : Nat) (F : Int) (n : Nat) (v i : Value) (wr : World) : Prop :=
  ∃ (k : Nat) (g : Gt) (taken : List RingL), k ≤ n ∧ i = .int .i64 k ∧ g.floor = F ∧ taken.length ≤ k ∧ (∀ t ∈ taken, OnceOk w g t) ∧ Blk wr G g.cells 54 ∧
    wr.ownsRow (G + 1) 32 5 v taken.length (taken.flatMap RingL.cells) ∧ Below w.heap.size w wr
def TookRel (w : World) (G : Nat) (g : Gt) (v : Value) (taken : List RingL) (i : Value) (wr : World) : Prop :=
  ∃ j : Nat, j ≤ taken.length ∧ i = .int .i64 j ∧ Blk wr G g.cells 54 ∧ wr.ownsRow (G + 1) 32 5 v taken.length (taken.flatMap RingL.cells) ∧ Below w.heap.size w wr

set_option maxRecDepth 100000 in
set_option maxHeartbeats 16000000 in
theorem gateOnce_walk (floor : Int) (A : Option Addr) (c : Nat) (rs : List RingL) (car0 : Int) (w : World) (hx : Sl w A (rs.flatMap RingL.cells)) (hr : ∀ r ∈ rs, RingOk w r) (hrl : rs.length ≤ 9223372036854775807) :
    Calls Try.prog 3 #[.int .i64 floor, .slice A rs.length c, .int .i64 car0] w (SaysTrue w) := by
  by_cases hn : rs.length ≤ 40
  · go_enter Try.func3, Try.ntmps3
    go_wp2_with fail
    refine (first_any _).mono ?_
    rintro e w1 ⟨rfl, hB1⟩
    go_wp2_with fail
    refine (gateNew_any floor _).mono ?_
    rintro e w2 ⟨rfl, hG2, hb2, _⟩
    have hB2 := hB1.trans (hb2.mono hB1.size)
    have hwG := hB1.size
    obtain ⟨F, hF⟩ : ∃ F, (if floor < 0 then 0 else floor) = F := ⟨_, rfl⟩
    have hFm : max floor 0 = F := by rw [← hF]; omega
    have hfF : floor ≤ F := by omega
    rw [hFm] at hG2
    generalize w1.heap.size = G at *
    clear hb2 hB1 hFm hF
    go_wp2_with fail
    refine (number_rng _ _ (by omega) (by omega) _).mono ?_
    rintro e w' ⟨car, hf0, hf1, rfl, rfl⟩
    clear hf0 hf1
    go_wp2
    go_loopw [9, 10] (fun v i wr => OnceRel w G F rs.length v i wr) (fun _ i _ => rs.length - (intOf i).toNat)
    case atStart => exact ⟨0, _, [], by omega, rfl, rfl, Nat.le_refl _, fun t h => (by cases h), hG2, World.ownsRow_nil _ _ _ _, hB2⟩
    case round =>
      clear hG2 hB2
      obtain ⟨k, g, taken, hk, rfl, hgF, htk, hall, hG, hrow, hBl⟩ := hrel
      by_cases hlt : k < rs.length
      · obtain ⟨b, o, rfl, hbw, hc⟩ := hx.at (by rw [flat_length RingL.len]; omega)
        obtain ⟨d, hd⟩ : ∃ d, rs[k]? = some d := ⟨rs[k], List.getElem?_eq_getElem hlt⟩
        obtain ⟨hdm, hdl, hde⟩ := hr d (List.mem_of_getElem? hd)
        have HC : Hid (∀ wq, Below w.heap.size w wq → wq.cell? ⟨b, o + k * 5, none⟩ = some (.int .i64 d.c) ∧ wq.cell? ⟨b, o + k * 5 + 1, none⟩ = some (.int .i64 d.f) ∧ wq.cell? ⟨b, o + k * 5 + 2, none⟩ = some (.int .i64 d.hop) ∧
            wq.cell? ⟨b, o + k * 5 + 3, none⟩ = some (.slice d.mA d.ms.length d.mC) ∧ wq.cell? ⟨b, o + k * 5 + 4, none⟩ = some (.slice d.eA d.eN d.eC)) := fun wq hq =>
          ring_cells (fun j hj => (hq.cell (p := ⟨b, o + j, none⟩) hbw).trans (hc j hj)) k d hd
        clear hc hd hx hr
        obtain ⟨d0, d1, d2, d3, d4⟩ := HC.out _ hBl
        by_cases h20 : d.ms.length ≤ 20
        · by_cases h4 : d.eN ≤ 4
          · go_wp2_with fail
            clear d0 d1 d2 d3 d4
            have hrowG : ∀ q, u9.ownBlock = some q → ¬ q = G := fun q hq => by have := (hrow.lt q hq).1; omega
            have hGz := hG.lt
            have hds := hdm.eff (Eff.of_below (S := fun _ => False) hBl) (fun _ _ h => h)
            cases hw : g.would car car d with
            | false =>
              have h2 : g.take car car d = g := by simp [Gt.take, hw]
              have htk2 := take_any g car car d _ hG hds (by omega)
              rw [hw, h2] at htk2
              refine htk2.mono ?_
              rintro e w3 ⟨rfl, hG3, hE3⟩
              have hB3 := hE3.below hBl hBl.size (fun i hi => by omega)
              have hrow3 := hE3.row hrow hrowG
              clear hG hrow hBl htk2 h2 hE3
              go_wp2
              go_roundw
              case rel => exact ⟨k + 1, g, taken, by omega, by go_num, hgF, by omega, fun t ht => hall t ht, hG3, hrow3, hB3⟩
              case measure => simp [intOf]; omega
            | true =>
              have h2 : g.take car car d = g.to d.c d.f d.hop := by simp [Gt.take, hw]
              have htk2 := take_any g car car d _ hG hds (by omega)
              rw [hw, h2] at htk2
              refine htk2.mono ?_
              rintro e w3 ⟨rfl, hG3, hE3⟩
              have hB3 := hE3.below hBl hBl.size (fun i hi => by omega)
              have hrow3 := hE3.row hrow hrowG
              have HUP : Hid (∀ t ∈ taken, UpTo t d.c d.f d.hop ∧ (lessE t.c t.f d.c d.f || (sameE t.c t.f d.c d.f && decide (t.hop < d.hop))) = true) := fun t ht => upTo_mono (hall t ht).1 (would_newer hw)
              have HALL : Hid (∀ t ∈ taken, Sl w t.mA (t.ms.map (Value.int .i64)) ∧ t.ms.length ≤ 20) := fun t ht => (hall t ht).2
              have HMEM := hid (would_among hw)
              have habove := would_above hw
              clear hG hrow hBl htk2 h2 hE3 hw hrowG hGz hds hall
              obtain ⟨A2, c2, rfl, _⟩ := Sl.row hrow3
              generalize (true && !sameE g.c g.f d.c d.f) = an
              cases an
              all_goals
                go_wp2
                go_loopw [13] (fun i wr => TookRel w G (g.to d.c d.f d.hop) (.slice A2 taken.length c2) taken i wr) (fun i _ => taken.length - (intOf i).toNat)
                case atStart => exact ⟨0, by omega, rfl, hG3, hrow3, hB3⟩
                case round =>
                  clear hG3 hrow3 hB3
                  obtain ⟨j, hj, rfl, hG4, hrow4, hB4⟩ := hrel
                  by_cases hjt : j < taken.length
                  · obtain ⟨b2, o2, rfl, hb2w, hc2⟩ := (rowsl hrow4).at (by rw [flat_length RingL.len]; omega)
                    obtain ⟨t, ht⟩ : ∃ t, taken[j]? = some t := ⟨taken[j], List.getElem?_eq_getElem hjt⟩
                    obtain ⟨hsm, htl⟩ := HALL.out t (List.mem_of_getElem? ht)
                    obtain ⟨hut, hlater⟩ := HUP.out t (List.mem_of_getElem? ht)
                    obtain ⟨x0, x1, x2, x3, x4⟩ := ring_cells hc2 j t ht
                    have HUT := hid hut
                    have HLATER := hid hlater
                    clear hc2 ht hut hlater
                    go_wp2_with fail
                    obtain ⟨w5, hw5⟩ : ∃ w5, w5 = wr.alloc (.cells #[.int .i64 t.c, .int .i64 t.f, .int .i64 t.hop, .slice t.mA t.ms.length t.mC, .slice t.eA t.eN t.eC] 32) := ⟨_, rfl⟩
                    have hT5 : Blk w5 wr.heap.size t.cells 32 := by rw [hw5]; exact Blk.new wr _ _
                    have hG5 : Blk w5 G (g.to d.c d.f d.hop).cells 54 := by rw [hw5]; exact hG4.alloc _
                    have hrow5 := hrow4.alloc (.cells #[.int .i64 t.c, .int .i64 t.f, .int .i64 t.hop, .slice t.mA t.ms.length t.mC, .slice t.eA t.eN t.eC] 32)
                    have hB5 : Below w.heap.size w w5 := by rw [hw5]; exact hB4.alloc hB4.size _
                    rw [← hw5] at hrow5
                    rw [← hw5]
                    have hs5 := hsm.eff (Eff.of_below (S := fun _ => False) hB5) (fun _ _ h => h)
                    generalize wr.heap.size = T at *
                    clear hw5 hG4 hrow4 hB4 x0 x1 x2 x3 x4
                    replace hT5 := hT5.drew
                    replace hG5 := hG5.drew
                    replace hB5 := hB5.drew
                    replace hrow5 := hrow5.drew
                    have hs5 : Sl w5.drew _ _ := hs5
                    have HHL : Hid (lessE t.c t.f d.c d.f = false → sameE t.c t.f d.c d.f = true ∧ t.hop < d.hop) := fun h => by
                      have := HLATER.out
                      rw [h] at this
                      simpa using this
                    cases hless : lessE t.c t.f d.c d.f with
                    | true =>
                      refine wp_region_held_drew (S := fun w' => w'.cell? ⟨T, 0, none⟩ = some (.int .i64 t.c) ∧ w'.cell? ⟨T, 1, none⟩ = some (.int .i64 t.f) ∧ w'.cell? ⟨T, 2, none⟩ = some (.int .i64 t.hop) ∧ w'.cell? ⟨b, o + k * 5, none⟩ = some (.int .i64 d.c) ∧ w'.cell? ⟨b, o + k * 5 + 1, none⟩ = some (.int .i64 d.f) ∧ w'.cell? ⟨b, o + k * 5 + 2, none⟩ = some (.int .i64 d.hop)) (by kernel_rfl) ?_ (fun hHeld => ?_)
                      · (try dsimp only); (first | exact ⟨hT5.cell 0, hT5.cell 1, hT5.cell 2, (HC.out _ hB5).1, (HC.out _ hB5).2.1, (HC.out _ hB5).2.2.1⟩ | exact ⟨hT6.cell 0, hT6.cell 1, hT6.cell 2, (HC.out _ hB6).1, (HC.out _ hB6).2.1, (HC.out _ hB6).2.2.1⟩ | exact ⟨hT7.cell 0, hT7.cell 1, hT7.cell 2, (HC.out _ hB7).1, (HC.out _ hB7).2.1, (HC.out _ hB7).2.2.1⟩)
                      refine held_take 0 ?_ rfl (by kernel_rfl) (by kernel_rfl) (by kernel_rfl) (fun _ _ _ h => h) (by rfl) ?_ hHeld ?_
                      rotate_left
                      · (intro w hSw; (try dsimp only at hSw); go_simp; try with_reducible rfl)
                      try simp only [Act.put, List.setIfInBounds_toArray, List.set_cons_zero, List.set_cons_succ]
                      refine held_take 1 ?_ rfl (by kernel_rfl) (by kernel_rfl) (by kernel_rfl) (fun _ _ _ h => h) (by rfl) ?_ hHeld ?_
                      rotate_left
                      · (intro w hSw; (try dsimp only at hSw); go_simp; try with_reducible rfl)
                      try simp only [Act.put, List.setIfInBounds_toArray, List.set_cons_zero, List.set_cons_succ]
                      refine held_take 2 ?_ rfl (by kernel_rfl) (by kernel_rfl) (by kernel_rfl) (fun _ _ _ h => h) (by rfl) ?_ hHeld ?_
                      rotate_left
                      · (intro w hSw; (try dsimp only at hSw); go_simp; try with_reducible rfl)
                      try simp only [Act.put, List.setIfInBounds_toArray, List.set_cons_zero, List.set_cons_succ]
                      refine held_take 3 ?_ rfl (by kernel_rfl) (by kernel_rfl) (by kernel_rfl) (fun _ _ _ h => h) (by rfl) ?_ hHeld ?_
                      rotate_left
                      · (intro w hSw; (try dsimp only at hSw); go_simp; try with_reducible rfl)
                      try simp only [Act.put, List.setIfInBounds_toArray, List.set_cons_zero, List.set_cons_succ]
                      refine held_take 4 ?_ rfl (by kernel_rfl) (by kernel_rfl) (by kernel_rfl) (fun _ _ _ h => h) (by rfl) ?_ hHeld ?_
                      rotate_left
                      · (intro w hSw; (try dsimp only at hSw); go_simp; try with_reducible rfl)
                      try simp only [Act.put, List.setIfInBounds_toArray, List.set_cons_zero, List.set_cons_succ]
                      refine held_take 5 ?_ rfl (by kernel_rfl) (by kernel_rfl) (by kernel_rfl) (fun _ _ _ h => h) (by rfl) ?_ hHeld ?_
                      rotate_left
                      · (intro w hSw; (try dsimp only at hSw); go_simp; try with_reducible rfl)
                      try simp only [Act.put, List.setIfInBounds_toArray, List.set_cons_zero, List.set_cons_succ]
                      refine held_take 6 ?_ rfl (by kernel_rfl) (by kernel_rfl) (by kernel_rfl) (fun _ _ _ h => h) (by rfl) ?_ hHeld ?_
                      rotate_left
                      · (intro w hSw; (try dsimp only at hSw); go_simp; try with_reducible rfl)
                      try simp only [Act.put, List.setIfInBounds_toArray, List.set_cons_zero, List.set_cons_succ]
                      refine held_one 7 rfl (by kernel_rfl) (by rfl) (fun K hK => ?_)
                      go_simp
                      refine (refLess_any t.c t.f d.c d.f _).mono ?_
                      rintro e w6 ⟨rfl, hb6⟩
                      rw [hless]
                      have hT6 := (Eff.of_below (S := fun _ => False) hb6).blk hT5 (fun h => h)
                      have hG6 := (Eff.of_below (S := fun _ => False) hb6).blk hG5 (fun h => h)
                      have hrow6 := (Eff.of_below (S := fun _ => False) hb6).row hrow5 (fun _ _ h => h)
                      have hs6 := hs5.eff (Eff.of_below (S := fun _ => False) hb6) (fun _ _ h => h)
                      have hB6 := hB5.trans (hb6.mono hB5.size)
                      clear hT5 hG5 hrow5 hs5 hB5 hb6
                      refine hK.out _ _ ?_ (fun hHeld2 => ?_)
                      · (try dsimp only); (first | exact ⟨hT5.cell 0, hT5.cell 1, hT5.cell 2, (HC.out _ hB5).1, (HC.out _ hB5).2.1, (HC.out _ hB5).2.2.1⟩ | exact ⟨hT6.cell 0, hT6.cell 1, hT6.cell 2, (HC.out _ hB6).1, (HC.out _ hB6).2.1, (HC.out _ hB6).2.2.1⟩ | exact ⟨hT7.cell 0, hT7.cell 1, hT7.cell 2, (HC.out _ hB7).1, (HC.out _ hB7).2.1, (HC.out _ hB7).2.2.1⟩)
                      clear hK K hHeld
                      have hHeld := hHeld2
                      clear hHeld2
                      try simp only [Act.put, List.setIfInBounds_toArray, List.set_cons_zero, List.set_cons_succ]
                      refine held_take 8 ?_ rfl (by kernel_rfl) (by kernel_rfl) (by kernel_rfl) (fun _ _ _ h => h) (by rfl) ?_ hHeld ?_
                      rotate_left
                      · (intro w hSw; (try dsimp only at hSw); go_simp; try with_reducible rfl)
                      try simp only [Act.put, List.setIfInBounds_toArray, List.set_cons_zero, List.set_cons_succ]
                      refine held_skip 9 rfl (by kernel_rfl) (by kernel_rfl) (by kernel_rfl) (fun _ _ _ h => h) (by rfl) hHeld ?_
                      try simp only [Act.put, List.setIfInBounds_toArray, List.set_cons_zero, List.set_cons_succ]
                      refine held_skip 10 rfl (by kernel_rfl) (by kernel_rfl) (by kernel_rfl) (fun _ _ _ h => h) (by rfl) hHeld ?_
                      try simp only [Act.put, List.setIfInBounds_toArray, List.set_cons_zero, List.set_cons_succ]
                      refine held_skip 11 rfl (by kernel_rfl) (by kernel_rfl) (by kernel_rfl) (fun _ _ _ h => h) (by rfl) hHeld ?_
                      try simp only [Act.put, List.setIfInBounds_toArray, List.set_cons_zero, List.set_cons_succ]
                      refine held_skip 12 rfl (by kernel_rfl) (by kernel_rfl) (by kernel_rfl) (fun _ _ _ h => h) (by rfl) hHeld ?_
                      try simp only [Act.put, List.setIfInBounds_toArray, List.set_cons_zero, List.set_cons_succ]
                      refine held_skip 13 rfl (by kernel_rfl) (by kernel_rfl) (by kernel_rfl) (fun _ _ _ h => h) (by rfl) hHeld ?_
                      try simp only [Act.put, List.setIfInBounds_toArray, List.set_cons_zero, List.set_cons_succ]
                      refine held_skip 14 rfl (by kernel_rfl) (by kernel_rfl) (by kernel_rfl) (fun _ _ _ h => h) (by rfl) hHeld ?_
                      try simp only [Act.put, List.setIfInBounds_toArray, List.set_cons_zero, List.set_cons_succ]
                      refine held_skip 15 rfl (by kernel_rfl) (by kernel_rfl) (by kernel_rfl) (fun _ _ _ h => h) (by rfl) hHeld ?_
                      try simp only [Act.put, List.setIfInBounds_toArray, List.set_cons_zero, List.set_cons_succ]
                      refine held_skip 16 rfl (by kernel_rfl) (by kernel_rfl) (by kernel_rfl) (fun _ _ _ h => h) (by rfl) hHeld ?_
                      try simp only [Act.put, List.setIfInBounds_toArray, List.set_cons_zero, List.set_cons_succ]
                      refine held_skip 17 rfl (by kernel_rfl) (by kernel_rfl) (by kernel_rfl) (fun _ _ _ h => h) (by rfl) hHeld ?_
                      try simp only [Act.put, List.setIfInBounds_toArray, List.set_cons_zero, List.set_cons_succ]
                      refine held_skip 18 rfl (by kernel_rfl) (by kernel_rfl) (by kernel_rfl) (fun _ _ _ h => h) (by rfl) hHeld ?_
                      try simp only [Act.put, List.setIfInBounds_toArray, List.set_cons_zero, List.set_cons_succ]
                      refine held_skip 19 rfl (by kernel_rfl) (by kernel_rfl) (by kernel_rfl) (fun _ _ _ h => h) (by rfl) hHeld ?_
                      try simp only [Act.put, List.setIfInBounds_toArray, List.set_cons_zero, List.set_cons_succ]
                      refine held_skip 20 rfl (by kernel_rfl) (by kernel_rfl) (by kernel_rfl) (fun _ _ _ h => h) (by rfl) hHeld ?_
                      try simp only [Act.put, List.setIfInBounds_toArray, List.set_cons_zero, List.set_cons_succ]
                      refine held_skip 21 rfl (by kernel_rfl) (by kernel_rfl) (by kernel_rfl) (fun _ _ _ h => h) (by rfl) hHeld ?_
                      try simp only [Act.put, List.setIfInBounds_toArray, List.set_cons_zero, List.set_cons_succ]
                      refine held_skip 22 rfl (by kernel_rfl) (by kernel_rfl) (by kernel_rfl) (fun _ _ _ h => h) (by rfl) hHeld ?_
                      try simp only [Act.put, List.setIfInBounds_toArray, List.set_cons_zero, List.set_cons_succ]
                      refine held_skip 23 rfl (by kernel_rfl) (by kernel_rfl) (by kernel_rfl) (fun _ _ _ h => h) (by rfl) hHeld ?_
                      try simp only [Act.put, List.setIfInBounds_toArray, List.set_cons_zero, List.set_cons_succ]
                      refine held_skip 24 rfl (by kernel_rfl) (by kernel_rfl) (by kernel_rfl) (fun _ _ _ h => h) (by rfl) hHeld ?_
                      try simp only [Act.put, List.setIfInBounds_toArray, List.set_cons_zero, List.set_cons_succ]
                      refine held_skip 25 rfl (by kernel_rfl) (by kernel_rfl) (by kernel_rfl) (fun _ _ _ h => h) (by rfl) hHeld ?_
                      try simp only [Act.put, List.setIfInBounds_toArray, List.set_cons_zero, List.set_cons_succ]
                      refine held_skip 26 rfl (by kernel_rfl) (by kernel_rfl) (by kernel_rfl) (fun _ _ _ h => h) (by rfl) hHeld ?_
                      try simp only [Act.put, List.setIfInBounds_toArray, List.set_cons_zero, List.set_cons_succ]
                      refine held_take 27 ?_ rfl (by kernel_rfl) (by kernel_rfl) (by kernel_rfl) (fun _ _ _ h => h) (by rfl) ?_ hHeld ?_
                      rotate_left
                      · (intro w hSw; (try dsimp only at hSw); go_simp; try with_reducible rfl)
                      try simp only [Act.put, List.setIfInBounds_toArray, List.set_cons_zero, List.set_cons_succ]
                      refine held_take 28 ?_ rfl (by kernel_rfl) (by kernel_rfl) (by kernel_rfl) (fun _ _ _ h => h) (by rfl) ?_ hHeld ?_
                      rotate_left
                      · (intro w hSw; (try dsimp only at hSw); go_simp; try with_reducible rfl)
                      try simp only [Act.put, List.setIfInBounds_toArray, List.set_cons_zero, List.set_cons_succ]
                      refine wpAnyH_done (by kernel_rfl) ?_ _
                      clear hHeld
                      have x0 : w6.cell? ⟨T, 0, none⟩ = some (.int .i64 t.c) := hT6.cell 0
                      have x1 : w6.cell? ⟨T, 1, none⟩ = some (.int .i64 t.f) := hT6.cell 1
                      have x2 : w6.cell? ⟨T, 2, none⟩ = some (.int .i64 t.hop) := hT6.cell 2
                      have x3 : w6.cell? ⟨T, 3, none⟩ = some (.slice t.mA t.ms.length t.mC) := hT6.cell 3
                      have x4 : w6.cell? ⟨T, 4, none⟩ = some (.slice t.eA t.eN t.eC) := hT6.cell 4
                      go_wp2_with fail
                      clear x0 x1 x2 x3 x4
                      have hwn := would_any (g.to d.c d.f d.hop) car car t _ hG6 hs6 (by omega)
                      rw [would_not (g := g.to d.c d.f d.hop) HUT.out] at hwn
                      refine hwn.mono ?_
                      rintro e w7 ⟨rfl, hb7⟩
                      have hT7 := (Eff.of_below (S := fun _ => False) hb7).blk hT6 (fun h => h)
                      have hG7 := (Eff.of_below (S := fun _ => False) hb7).blk hG6 (fun h => h)
                      have hrow7 := (Eff.of_below (S := fun _ => False) hb7).row hrow6 (fun _ _ h => h)
                      have hs7 := hs6.eff (Eff.of_below (S := fun _ => False) hb7) (fun _ _ h => h)
                      have hB7 := hB6.trans (hb7.mono hB6.size)
                      clear hT6 hG6 hrow6 hs6 hB6 hb7
                      clear hwn
                      go_wp2
                      go_roundw
                      case rel => exact ⟨j + 1, by omega, by go_num, hG7, hrow7, hB7⟩
                      case measure => simp [intOf]; omega
                    | false =>
                      obtain ⟨hsame, hhop⟩ := HHL.out hless
                      refine wp_region_held_drew (S := fun w' => w'.cell? ⟨T, 0, none⟩ = some (.int .i64 t.c) ∧ w'.cell? ⟨T, 1, none⟩ = some (.int .i64 t.f) ∧ w'.cell? ⟨T, 2, none⟩ = some (.int .i64 t.hop) ∧ w'.cell? ⟨b, o + k * 5, none⟩ = some (.int .i64 d.c) ∧ w'.cell? ⟨b, o + k * 5 + 1, none⟩ = some (.int .i64 d.f) ∧ w'.cell? ⟨b, o + k * 5 + 2, none⟩ = some (.int .i64 d.hop)) (by kernel_rfl) ?_ (fun hHeld => ?_)
                      · (try dsimp only); (first | exact ⟨hT5.cell 0, hT5.cell 1, hT5.cell 2, (HC.out _ hB5).1, (HC.out _ hB5).2.1, (HC.out _ hB5).2.2.1⟩ | exact ⟨hT6.cell 0, hT6.cell 1, hT6.cell 2, (HC.out _ hB6).1, (HC.out _ hB6).2.1, (HC.out _ hB6).2.2.1⟩ | exact ⟨hT7.cell 0, hT7.cell 1, hT7.cell 2, (HC.out _ hB7).1, (HC.out _ hB7).2.1, (HC.out _ hB7).2.2.1⟩)
                      refine held_take 0 ?_ rfl (by kernel_rfl) (by kernel_rfl) (by kernel_rfl) (fun _ _ _ h => h) (by rfl) ?_ hHeld ?_
                      rotate_left
                      · (intro w hSw; (try dsimp only at hSw); go_simp; try with_reducible rfl)
                      try simp only [Act.put, List.setIfInBounds_toArray, List.set_cons_zero, List.set_cons_succ]
                      refine held_take 1 ?_ rfl (by kernel_rfl) (by kernel_rfl) (by kernel_rfl) (fun _ _ _ h => h) (by rfl) ?_ hHeld ?_
                      rotate_left
                      · (intro w hSw; (try dsimp only at hSw); go_simp; try with_reducible rfl)
                      try simp only [Act.put, List.setIfInBounds_toArray, List.set_cons_zero, List.set_cons_succ]
                      refine held_take 2 ?_ rfl (by kernel_rfl) (by kernel_rfl) (by kernel_rfl) (fun _ _ _ h => h) (by rfl) ?_ hHeld ?_
                      rotate_left
                      · (intro w hSw; (try dsimp only at hSw); go_simp; try with_reducible rfl)
                      try simp only [Act.put, List.setIfInBounds_toArray, List.set_cons_zero, List.set_cons_succ]
                      refine held_take 3 ?_ rfl (by kernel_rfl) (by kernel_rfl) (by kernel_rfl) (fun _ _ _ h => h) (by rfl) ?_ hHeld ?_
                      rotate_left
                      · (intro w hSw; (try dsimp only at hSw); go_simp; try with_reducible rfl)
                      try simp only [Act.put, List.setIfInBounds_toArray, List.set_cons_zero, List.set_cons_succ]
                      refine held_take 4 ?_ rfl (by kernel_rfl) (by kernel_rfl) (by kernel_rfl) (fun _ _ _ h => h) (by rfl) ?_ hHeld ?_
                      rotate_left
                      · (intro w hSw; (try dsimp only at hSw); go_simp; try with_reducible rfl)
                      try simp only [Act.put, List.setIfInBounds_toArray, List.set_cons_zero, List.set_cons_succ]
                      refine held_take 5 ?_ rfl (by kernel_rfl) (by kernel_rfl) (by kernel_rfl) (fun _ _ _ h => h) (by rfl) ?_ hHeld ?_
                      rotate_left
                      · (intro w hSw; (try dsimp only at hSw); go_simp; try with_reducible rfl)
                      try simp only [Act.put, List.setIfInBounds_toArray, List.set_cons_zero, List.set_cons_succ]
                      refine held_take 6 ?_ rfl (by kernel_rfl) (by kernel_rfl) (by kernel_rfl) (fun _ _ _ h => h) (by rfl) ?_ hHeld ?_
                      rotate_left
                      · (intro w hSw; (try dsimp only at hSw); go_simp; try with_reducible rfl)
                      try simp only [Act.put, List.setIfInBounds_toArray, List.set_cons_zero, List.set_cons_succ]
                      refine held_one 7 rfl (by kernel_rfl) (by rfl) (fun K hK => ?_)
                      go_simp
                      refine (refLess_any t.c t.f d.c d.f _).mono ?_
                      rintro e w6 ⟨rfl, hb6⟩
                      rw [hless]
                      have hT6 := (Eff.of_below (S := fun _ => False) hb6).blk hT5 (fun h => h)
                      have hG6 := (Eff.of_below (S := fun _ => False) hb6).blk hG5 (fun h => h)
                      have hrow6 := (Eff.of_below (S := fun _ => False) hb6).row hrow5 (fun _ _ h => h)
                      have hs6 := hs5.eff (Eff.of_below (S := fun _ => False) hb6) (fun _ _ h => h)
                      have hB6 := hB5.trans (hb6.mono hB5.size)
                      clear hT5 hG5 hrow5 hs5 hB5 hb6
                      refine hK.out _ _ ?_ (fun hHeld2 => ?_)
                      · (try dsimp only); (first | exact ⟨hT5.cell 0, hT5.cell 1, hT5.cell 2, (HC.out _ hB5).1, (HC.out _ hB5).2.1, (HC.out _ hB5).2.2.1⟩ | exact ⟨hT6.cell 0, hT6.cell 1, hT6.cell 2, (HC.out _ hB6).1, (HC.out _ hB6).2.1, (HC.out _ hB6).2.2.1⟩ | exact ⟨hT7.cell 0, hT7.cell 1, hT7.cell 2, (HC.out _ hB7).1, (HC.out _ hB7).2.1, (HC.out _ hB7).2.2.1⟩)
                      clear hK K hHeld
                      have hHeld := hHeld2
                      clear hHeld2
                      try simp only [Act.put, List.setIfInBounds_toArray, List.set_cons_zero, List.set_cons_succ]
                      refine held_take 8 ?_ rfl (by kernel_rfl) (by kernel_rfl) (by kernel_rfl) (fun _ _ _ h => h) (by rfl) ?_ hHeld ?_
                      rotate_left
                      · (intro w hSw; (try dsimp only at hSw); go_simp; try with_reducible rfl)
                      try simp only [Act.put, List.setIfInBounds_toArray, List.set_cons_zero, List.set_cons_succ]
                      refine held_take 9 ?_ rfl (by kernel_rfl) (by kernel_rfl) (by kernel_rfl) (fun _ _ _ h => h) (by rfl) ?_ hHeld ?_
                      rotate_left
                      · (intro w hSw; (try dsimp only at hSw); go_simp; try with_reducible rfl)
                      try simp only [Act.put, List.setIfInBounds_toArray, List.set_cons_zero, List.set_cons_succ]
                      refine held_take 10 ?_ rfl (by kernel_rfl) (by kernel_rfl) (by kernel_rfl) (fun _ _ _ h => h) (by rfl) ?_ hHeld ?_
                      rotate_left
                      · (intro w hSw; (try dsimp only at hSw); go_simp; try with_reducible rfl)
                      try simp only [Act.put, List.setIfInBounds_toArray, List.set_cons_zero, List.set_cons_succ]
                      refine held_take 11 ?_ rfl (by kernel_rfl) (by kernel_rfl) (by kernel_rfl) (fun _ _ _ h => h) (by rfl) ?_ hHeld ?_
                      rotate_left
                      · (intro w hSw; (try dsimp only at hSw); go_simp; try with_reducible rfl)
                      try simp only [Act.put, List.setIfInBounds_toArray, List.set_cons_zero, List.set_cons_succ]
                      refine held_take 12 ?_ rfl (by kernel_rfl) (by kernel_rfl) (by kernel_rfl) (fun _ _ _ h => h) (by rfl) ?_ hHeld ?_
                      rotate_left
                      · (intro w hSw; (try dsimp only at hSw); go_simp; try with_reducible rfl)
                      try simp only [Act.put, List.setIfInBounds_toArray, List.set_cons_zero, List.set_cons_succ]
                      refine held_take 13 ?_ rfl (by kernel_rfl) (by kernel_rfl) (by kernel_rfl) (fun _ _ _ h => h) (by rfl) ?_ hHeld ?_
                      rotate_left
                      · (intro w hSw; (try dsimp only at hSw); go_simp; try with_reducible rfl)
                      try simp only [Act.put, List.setIfInBounds_toArray, List.set_cons_zero, List.set_cons_succ]
                      refine held_take 14 ?_ rfl (by kernel_rfl) (by kernel_rfl) (by kernel_rfl) (fun _ _ _ h => h) (by rfl) ?_ hHeld ?_
                      rotate_left
                      · (intro w hSw; (try dsimp only at hSw); go_simp; try with_reducible rfl)
                      try simp only [Act.put, List.setIfInBounds_toArray, List.set_cons_zero, List.set_cons_succ]
                      refine held_take 15 ?_ rfl (by kernel_rfl) (by kernel_rfl) (by kernel_rfl) (fun _ _ _ h => h) (by rfl) ?_ hHeld ?_
                      rotate_left
                      · (intro w hSw; (try dsimp only at hSw); go_simp; try with_reducible rfl)
                      try simp only [Act.put, List.setIfInBounds_toArray, List.set_cons_zero, List.set_cons_succ]
                      refine held_one 16 rfl (by kernel_rfl) (by rfl) (fun K hK => ?_)
                      go_simp
                      refine (sameEpoch_any t.c t.f d.c d.f _).mono ?_
                      rintro e w7 ⟨rfl, hb7⟩
                      rw [hsame]
                      have hT7 := (Eff.of_below (S := fun _ => False) hb7).blk hT6 (fun h => h)
                      have hG7 := (Eff.of_below (S := fun _ => False) hb7).blk hG6 (fun h => h)
                      have hrow7 := (Eff.of_below (S := fun _ => False) hb7).row hrow6 (fun _ _ h => h)
                      have hs7 := hs6.eff (Eff.of_below (S := fun _ => False) hb7) (fun _ _ h => h)
                      have hB7 := hB6.trans (hb7.mono hB6.size)
                      clear hT6 hG6 hrow6 hs6 hB6 hb7
                      refine hK.out _ _ ?_ (fun hHeld2 => ?_)
                      · (try dsimp only); (first | exact ⟨hT5.cell 0, hT5.cell 1, hT5.cell 2, (HC.out _ hB5).1, (HC.out _ hB5).2.1, (HC.out _ hB5).2.2.1⟩ | exact ⟨hT6.cell 0, hT6.cell 1, hT6.cell 2, (HC.out _ hB6).1, (HC.out _ hB6).2.1, (HC.out _ hB6).2.2.1⟩ | exact ⟨hT7.cell 0, hT7.cell 1, hT7.cell 2, (HC.out _ hB7).1, (HC.out _ hB7).2.1, (HC.out _ hB7).2.2.1⟩)
                      clear hK K hHeld
                      have hHeld := hHeld2
                      clear hHeld2
                      try simp only [Act.put, List.setIfInBounds_toArray, List.set_cons_zero, List.set_cons_succ]
                      refine held_take 17 ?_ rfl (by kernel_rfl) (by kernel_rfl) (by kernel_rfl) (fun _ _ _ h => h) (by rfl) ?_ hHeld ?_
                      rotate_left
                      · (intro w hSw; (try dsimp only at hSw); go_simp; try with_reducible rfl)
                      try simp only [Act.put, List.setIfInBounds_toArray, List.set_cons_zero, List.set_cons_succ]
                      refine held_take 18 ?_ rfl (by kernel_rfl) (by kernel_rfl) (by kernel_rfl) (fun _ _ _ h => h) (by rfl) ?_ hHeld ?_
                      rotate_left
                      · (intro w hSw; (try dsimp only at hSw); go_simp; try with_reducible rfl)
                      try simp only [Act.put, List.setIfInBounds_toArray, List.set_cons_zero, List.set_cons_succ]
                      refine held_take 19 ?_ rfl (by kernel_rfl) (by kernel_rfl) (by kernel_rfl) (fun _ _ _ h => h) (by rfl) ?_ hHeld ?_
                      rotate_left
                      · (intro w hSw; (try dsimp only at hSw); go_simp; try with_reducible rfl)
                      try simp only [Act.put, List.setIfInBounds_toArray, List.set_cons_zero, List.set_cons_succ]
                      refine held_take 20 ?_ rfl (by kernel_rfl) (by kernel_rfl) (by kernel_rfl) (fun _ _ _ h => h) (by rfl) ?_ hHeld ?_
                      rotate_left
                      · (intro w hSw; (try dsimp only at hSw); go_simp; try with_reducible rfl)
                      try simp only [Act.put, List.setIfInBounds_toArray, List.set_cons_zero, List.set_cons_succ]
                      refine held_take 21 ?_ rfl (by kernel_rfl) (by kernel_rfl) (by kernel_rfl) (fun _ _ _ h => h) (by rfl) ?_ hHeld ?_
                      rotate_left
                      · (intro w hSw; (try dsimp only at hSw); go_simp; try with_reducible rfl)
                      try simp only [Act.put, List.setIfInBounds_toArray, List.set_cons_zero, List.set_cons_succ]
                      refine held_take 22 ?_ rfl (by kernel_rfl) (by kernel_rfl) (by kernel_rfl) (fun _ _ _ h => h) (by rfl) ?_ hHeld ?_
                      rotate_left
                      · (intro w hSw; (try dsimp only at hSw); go_simp; try with_reducible rfl)
                      try simp only [Act.put, List.setIfInBounds_toArray, List.set_cons_zero, List.set_cons_succ]
                      refine held_take 23 ?_ rfl (by kernel_rfl) (by kernel_rfl) (by kernel_rfl) (fun _ _ _ h => h) (by rfl) ?_ hHeld ?_
                      rotate_left
                      · (intro w hSw; (try dsimp only at hSw); go_simp; try with_reducible rfl)
                      try simp only [Act.put, List.setIfInBounds_toArray, List.set_cons_zero, List.set_cons_succ]
                      refine held_take 24 ?_ rfl (by kernel_rfl) (by kernel_rfl) (by kernel_rfl) (fun _ _ _ h => h) (by rfl) ?_ hHeld ?_
                      rotate_left
                      · (intro w hSw; (try dsimp only at hSw); go_simp; try with_reducible rfl)
                      try simp only [Act.put, List.setIfInBounds_toArray, List.set_cons_zero, List.set_cons_succ]
                      refine held_take 25 ?_ rfl (by kernel_rfl) (by kernel_rfl) (by kernel_rfl) (fun _ _ _ h => h) (by rfl) ?_ hHeld ?_
                      rotate_left
                      · (intro w hSw; (try dsimp only at hSw); go_simp; try with_reducible rfl)
                      try simp only [Act.put, List.setIfInBounds_toArray, List.set_cons_zero, List.set_cons_succ]
                      refine held_take 26 ?_ rfl (by kernel_rfl) (by kernel_rfl) (by kernel_rfl) (fun _ _ _ h => h) (by rfl) ?_ hHeld ?_
                      rotate_left
                      · (intro w hSw; (try dsimp only at hSw); go_simp; try with_reducible rfl)
                      try simp only [Act.put, List.setIfInBounds_toArray, List.set_cons_zero, List.set_cons_succ]
                      refine held_take 27 ?_ rfl (by kernel_rfl) (by kernel_rfl) (by kernel_rfl) (fun _ _ _ h => h) (by rfl) ?_ hHeld ?_
                      rotate_left
                      · (intro w hSw; (try dsimp only at hSw); go_simp; try with_reducible rfl)
                      try simp only [Act.put, List.setIfInBounds_toArray, List.set_cons_zero, List.set_cons_succ]
                      refine held_take 28 ?_ rfl (by kernel_rfl) (by kernel_rfl) (by kernel_rfl) (fun _ _ _ h => h) (by rfl) ?_ hHeld ?_
                      rotate_left
                      · (intro w hSw; (try dsimp only at hSw); go_simp; try with_reducible rfl)
                      try simp only [Act.put, List.setIfInBounds_toArray, List.set_cons_zero, List.set_cons_succ]
                      refine wpAnyH_done (by kernel_rfl) ?_ _
                      clear hHeld
                      have x0 : w7.cell? ⟨T, 0, none⟩ = some (.int .i64 t.c) := hT7.cell 0
                      have x1 : w7.cell? ⟨T, 1, none⟩ = some (.int .i64 t.f) := hT7.cell 1
                      have x2 : w7.cell? ⟨T, 2, none⟩ = some (.int .i64 t.hop) := hT7.cell 2
                      have x3 : w7.cell? ⟨T, 3, none⟩ = some (.slice t.mA t.ms.length t.mC) := hT7.cell 3
                      have x4 : w7.cell? ⟨T, 4, none⟩ = some (.slice t.eA t.eN t.eC) := hT7.cell 4
                      go_wp2_with fail
                      clear x0 x1 x2 x3 x4
                      have hwn := would_any (g.to d.c d.f d.hop) car car t _ hG7 hs7 (by omega)
                      rw [would_not (g := g.to d.c d.f d.hop) HUT.out] at hwn
                      refine hwn.mono ?_
                      rintro e w8 ⟨rfl, hb8⟩
                      have hT8 := (Eff.of_below (S := fun _ => False) hb8).blk hT7 (fun h => h)
                      have hG8 := (Eff.of_below (S := fun _ => False) hb8).blk hG7 (fun h => h)
                      have hrow8 := (Eff.of_below (S := fun _ => False) hb8).row hrow7 (fun _ _ h => h)
                      have hs8 := hs7.eff (Eff.of_below (S := fun _ => False) hb8) (fun _ _ h => h)
                      have hB8 := hB7.trans (hb8.mono hB7.size)
                      clear hT7 hG7 hrow7 hs7 hB7 hb8
                      clear hwn
                      go_wp2
                      go_roundw
                      case rel => exact ⟨j + 1, by omega, by go_num, hG8, hrow8, hB8⟩
                      case measure => simp [intOf]; omega
                  · obtain ⟨d0, d1, d2, d3, d4⟩ := HC.out _ hB4
                    have hfd : ¬ d.c ≤ floor := by omega
                    go_wp2_with fail
                    clear d0 d1 d2 d3 d4
                    have hd4 := hdm.eff (Eff.of_below (S := fun _ => False) hB4) (fun _ _ h => h)
                    have hwn := would_any (g.to d.c d.f d.hop) car car d _ hG4 hd4 (by omega)
                    rw [would_self] at hwn
                    refine hwn.mono ?_
                    rintro e w5 ⟨rfl, hb5⟩
                    have hG5 := (Eff.of_below (S := fun _ => False) hb5).blk hG4 (fun h => h)
                    have hrow5 := (Eff.of_below (S := fun _ => False) hb5).row hrow4 (fun _ _ h => h)
                    have hd5 := hd4.eff (Eff.of_below (S := fun _ => False) hb5) (fun _ _ h => h)
                    have hB5 := hB4.trans (hb5.mono hB4.size)
                    clear hG4 hrow4 hd4 hB4 hb5 hwn
                    obtain ⟨d0, d1, d2, d3, d4⟩ := HC.out _ hB5
                    go_wp2_with fail
                    refine (among_any d.mA d.mC d.ms car _ hd5 (by omega)).mono ?_
                    rintro e w' ⟨rfl, rfl⟩
                    have hin : decide (car ∈ d.ms) = true := by simpa using HMEM.out
                    rw [hin]
                    have hG5l := hG5.lt
                    go_wp2_with (at_builtin; refine wpList_append_new row_rings rfl _ _ rfl (G + 1) _ _ _ rfl hrow5 1 d.cells _ rfl rfl rfl rfl (by unfold maxLen; omega) (by omega) (by omega) rfl ?_; intro v' w' hown' hgrow)
                    have hG6 := hG5.grown2 hgrow (fun hq => by have := (hrow5.lt _ hq).1; omega)
                    have hB6 := hB5.grown hgrow hB5.size (fun q hq => by have := (hrow5.lt q hq).1; omega)
                    clear d0 d1 d2 d3 d4 hG5 hB5 hrow5 hgrow
                    go_wp2
                    go_roundw
                    case rel => exact ⟨k + 1, g.to d.c d.f d.hop, taken ++ [d], by omega, by go_num, hgF, by simp; omega, fun t ht => (by
                      rcases List.mem_append.1 ht with h | h
                      · exact ⟨(HUP.out t h).1, HALL.out t h⟩
                      · obtain rfl : t = d := by simpa using h
                        exact ⟨upTo_self t, hdm, h20⟩), hG6, by simpa using hown', hB6⟩
                    case measure => simp [intOf]; omega
          · go_wp2
            go_ret
            exact ⟨rfl, hBl⟩
        · go_wp2
          go_ret
          exact ⟨rfl, hBl⟩
      · go_wp2
        go_ret
        exact ⟨rfl, hBl⟩
  · go_enter Try.func3, Try.ntmps3
    go_wp2_with fail
    refine (first_any _).mono ?_
    rintro e w1 ⟨rfl, hB1⟩
    go_wp2
    go_ret
    exact ⟨rfl, hB1⟩
end Go.Proofs.Ytioaapgpcpepmaa
