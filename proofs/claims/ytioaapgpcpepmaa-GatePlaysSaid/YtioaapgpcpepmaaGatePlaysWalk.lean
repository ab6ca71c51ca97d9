/- GatePlays: the walk: whatever is told to the gates, the Go text returns true. -/
import Derived.Test.YtioaapgpcpepmaaGateFirst
import Derived.Test.YtioaapgpcpepmaaGateOpen
import Derived.Test.YtioaapgpcpepmaaRefGate
namespace Go.Proofs.Ytioaapgpcpepmaa
open Go.RowKit Go.Deep Go.ChangeShapes Go.WideShapes
set_option linter.unusedSimpArgs false
set_option linter.unusedVariables false

/-- Something told, as it lies in memory. -/
structure GDo where
  kind : Int
  car : Int
  dst : Int
  ring : RingL
abbrev GDo.cells (d : GDo) : List Value := [.int .i64 d.kind, .int .i64 d.car, .int .i64 d.dst, .int .i64 d.ring.c, .int .i64 d.ring.f, .int .i64 d.ring.hop, .slice d.ring.mA d.ring.ms.length d.ring.mC, .slice d.ring.eA d.ring.eN d.ring.eC]
theorem GDo.len (d : GDo) : d.cells.length = 8 := rfl

theorem row_gdo : fieldRow Try.prog 48 = some [(3, 0), (3, 1), (3, 2), (32, 3)] := by kernel_rfl
theorem cells_gdo : Try.prog.cellsOf 48 = 8 := by kernel_rfl
section
variable {H : Type} {enc : TypeId × Value → H} {w : World} {base : Nat} {spare : Nat → Bool} {held : Bool}
theorem open_gdo (n : Nat) (cs : List Value) (x : DataW H × List MemPlace) (h : DataW.trod enc Try.prog w base spare held n 48 cs = some x) : ∃ d : GDo, cs = d.cells ∧ RingOk w d.ring := by
  obtain ⟨hl, n, hf⟩ := open_struct row_gdo h
  rw [cells_gdo] at hl
  obtain ⟨c0, c1, c2, c3, c4, c5, c6, c7, rfl⟩ := list8 hl
  obtain ⟨y0, h0⟩ := hf 0 _ rfl
  obtain ⟨y1, h1⟩ := hf 1 _ rfl
  obtain ⟨y2, h2⟩ := hf 2 _ rfl
  obtain ⟨y3, h3⟩ := hf 3 _ rfl
  simp only [cells_int, cells_ring] at h0 h1 h2 h3
  obtain ⟨a0, e0, _, _⟩ := DataW.trod_int Try.underlying3 h0
  obtain ⟨a1, e1, _, _⟩ := DataW.trod_int Try.underlying3 h1
  obtain ⟨a2, e2, _, _⟩ := DataW.trod_int Try.underlying3 h2
  obtain ⟨r, e3, hr⟩ := open_ring _ _ _ h3
  simp at e0 e1 e2 e3
  obtain ⟨e3, e4, e5, e6, e7⟩ := e3
  exact ⟨⟨a0, a1, a2, r⟩, by rw [e0, e1, e2, e3, e4, e5, e6, e7], hr⟩
end
theorem gdo_cells {w : World} {b o : Nat} {ds : List GDo} (hc : ∀ k, k < (ds.flatMap GDo.cells).length → w.cell? ⟨b, o + k, none⟩ = (ds.flatMap GDo.cells)[k]?) (k : Nat) (d : GDo) (hd : ds[k]? = some d) :
    ∀ j, j < 8 → w.cell? ⟨b, o + (k * 8 + j), none⟩ = d.cells[j]? := fun j hj => by
  have hk : k < ds.length := (List.getElem?_eq_some_iff.1 hd).1
  rw [hc (k * 8 + j) (by rw [flat_length GDo.len]; omega)]
  have := flat_get GDo.len ds [] k j d hd hj
  simpa using this

def GPRel (w : World) (G n : Nat) (i : Value) (wr : World) : Prop :=
  ∃ (k : Nat) (g : Gt), k ≤ n ∧ i = .int .i64 k ∧ Blk wr G g.cells 54 ∧ Blk wr (G + 1) g.refCells 51 ∧ Below w.heap.size w wr

set_option maxRecDepth 100000 in
set_option maxHeartbeats 16000000 in
theorem gatePlays_walk (floor : Int) (A : Option Addr) (c : Nat) (ds : List GDo) (w : World) (hx : Sl w A (ds.flatMap GDo.cells)) (hr : ∀ d ∈ ds, RingOk w d.ring) (hrl : ds.length ≤ 9223372036854775807) :
    Calls Try.prog 7 #[.int .i64 floor, .slice A ds.length c] w (SaysTrue w) := by
  by_cases hn : ds.length ≤ 60
  · go_enter Try.func7, Try.ntmps7
    go_wp2_with fail
    refine (first_any _).mono ?_
    rintro e w1 ⟨rfl, hB1⟩
    go_wp2_with fail
    refine (gateNew_any floor _).mono ?_
    rintro e w2 ⟨rfl, hG2, hb2, hz2⟩
    have hB2 := hB1.trans (hb2.mono hB1.size)
    have hwG := hB1.size
    generalize w1.heap.size = G at *
    clear hb2 hB1
    go_wp2_with fail
    refine (refNew_any floor _).mono ?_
    rintro e w3 ⟨rfl, hX3, hb3, _⟩
    have hG3 := (Eff.of_below (S := fun _ => False) hb3).blk hG2 (fun h => h)
    have hB3 := hB2.trans (hb3.mono hB2.size)
    rw [hz2] at hX3 ⊢
    clear hb3 hB2 hG2 hz2
    go_wp2
    go_loopw [8] (fun i wr => GPRel w G ds.length i wr) (fun i _ => ds.length - (intOf i).toNat)
    case atStart => exact ⟨0, _, by omega, rfl, hG3, hX3, hB3⟩
    case round =>
      clear hG3 hX3 hB3
      obtain ⟨k, g, hk, rfl, hG, hX, hBl⟩ := hrel
      by_cases hlt : k < ds.length
      · obtain ⟨b, o, rfl, hbw, hc⟩ := hx.at (by rw [flat_length GDo.len]; omega)
        obtain ⟨d, hd⟩ : ∃ d, ds[k]? = some d := ⟨ds[k], List.getElem?_eq_getElem hlt⟩
        obtain ⟨hdm, hdl, hde⟩ := hr d (List.mem_of_getElem? hd)
        have hcell : ∀ j, j < 8 → wr.cell? ⟨b, o + (k * 8 + j), none⟩ = d.cells[j]? := fun j hj => (hBl.cell (p := ⟨b, o + (k * 8 + j), none⟩) hbw).trans (gdo_cells hc k d hd j hj)
        have d0 : wr.cell? ⟨b, o + k * 8, none⟩ = some (.int .i64 d.kind) := hcell 0 (by omega)
        have d1 : wr.cell? ⟨b, o + k * 8 + 1, none⟩ = some (.int .i64 d.car) := hcell 1 (by omega)
        have d2 : wr.cell? ⟨b, o + k * 8 + 2, none⟩ = some (.int .i64 d.dst) := hcell 2 (by omega)
        have d3 : wr.cell? ⟨b, o + k * 8 + 3, none⟩ = some (.int .i64 d.ring.c) := hcell 3 (by omega)
        have d4 : wr.cell? ⟨b, o + k * 8 + 4, none⟩ = some (.int .i64 d.ring.f) := hcell 4 (by omega)
        have d5 : wr.cell? ⟨b, o + k * 8 + 5, none⟩ = some (.int .i64 d.ring.hop) := hcell 5 (by omega)
        have d6 : wr.cell? ⟨b, o + k * 8 + 6, none⟩ = some (.slice d.ring.mA d.ring.ms.length d.ring.mC) := hcell 6 (by omega)
        have d7 : wr.cell? ⟨b, o + k * 8 + 7, none⟩ = some (.slice d.ring.eA d.ring.eN d.ring.eC) := hcell 7 (by omega)
        clear hcell hc hd hx hr
        by_cases h20 : d.ring.ms.length ≤ 20
        · by_cases h4 : d.ring.eN ≤ 4
          · go_wp2_with fail
            obtain ⟨w4, hw4⟩ : ∃ w4, w4 = wr.alloc (.cells #[.int .i64 d.kind, .int .i64 d.car, .int .i64 d.dst, .int .i64 d.ring.c, .int .i64 d.ring.f, .int .i64 d.ring.hop, .slice d.ring.mA d.ring.ms.length d.ring.mC, .slice d.ring.eA d.ring.eN d.ring.eC] 48) := ⟨_, rfl⟩
            have hD4 : Blk w4 wr.heap.size d.cells 48 := by rw [hw4]; exact Blk.new wr _ _
            have hG4 : Blk w4 G g.cells 54 := by rw [hw4]; exact hG.alloc _
            have hX4 : Blk w4 (G + 1) g.refCells 51 := by rw [hw4]; exact hX.alloc _
            have hB4 : Below w.heap.size w w4 := by rw [hw4]; exact hBl.alloc hBl.size _
            rw [← hw4]
            have hXD := hX.lt
            have hzD := hBl.size
            generalize wr.heap.size = D at *
            clear hw4 hG hX hBl
            clear d0 d1 d2 d3 d4 d5 d6 d7
            refine (gateClone_any g _ hG4).mono ?_
            rintro e w5 ⟨rfl, hC5, hb5, _⟩
            have hDC := hD4.lt
            have hD5 := (Eff.of_below (S := fun _ => False) hb5).blk hD4 (fun h => h)
            have hG5 := (Eff.of_below (S := fun _ => False) hb5).blk hG4 (fun h => h)
            have hX5 := (Eff.of_below (S := fun _ => False) hb5).blk hX4 (fun h => h)
            have hB5 := hB4.trans (hb5.mono hB4.size)
            clear hB4 hb5 hD4 hG4 hX4
            generalize w4.heap.size = C at *
            go_wp2_with fail
            refine (gateHop_any g _ hC5).mono ?_
            rintro e w' ⟨rfl, rfl⟩
            have d0 : w5.cell? ⟨D, 0, none⟩ = some (.int .i64 d.kind) := hD5.cell 0
            have d1 : w5.cell? ⟨D, 1, none⟩ = some (.int .i64 d.car) := hD5.cell 1
            have d2 : w5.cell? ⟨D, 2, none⟩ = some (.int .i64 d.dst) := hD5.cell 2
            have d3 : w5.cell? ⟨D, 3, none⟩ = some (.int .i64 d.ring.c) := hD5.cell 3
            have d4 : w5.cell? ⟨D, 4, none⟩ = some (.int .i64 d.ring.f) := hD5.cell 4
            have d5 : w5.cell? ⟨D, 5, none⟩ = some (.int .i64 d.ring.hop) := hD5.cell 5
            have d6 : w5.cell? ⟨D, 6, none⟩ = some (.slice d.ring.mA d.ring.ms.length d.ring.mC) := hD5.cell 6
            have d7 : w5.cell? ⟨D, 7, none⟩ = some (.slice d.ring.eA d.ring.eN d.ring.eC) := hD5.cell 7
            have hs5 := hdm.eff (Eff.of_below (S := fun _ => False) hB5) (fun _ _ h => h)
            go_wp2_with fail
            clear d0 d1 d2 d3 d4 d5 d6 d7
            clear hs5
            replace hD5 := hD5.drew
            replace hG5 := hG5.drew
            replace hX5 := hX5.drew
            replace hC5 := hC5.drew
            replace hB5 := hB5.drew
            have hqq : (g.would d.car d.dst d.ring != g.would d.car d.dst d.ring) = false := by simp
            refine wp_region_held_drew (S := fun w' => w'.cell? ⟨D, 1, none⟩ = some (.int .i64 d.car) ∧ w'.cell? ⟨D, 2, none⟩ = some (.int .i64 d.dst) ∧ w'.cell? ⟨D, 3, none⟩ = some (.int .i64 d.ring.c) ∧ w'.cell? ⟨D, 4, none⟩ = some (.int .i64 d.ring.f) ∧ w'.cell? ⟨D, 5, none⟩ = some (.int .i64 d.ring.hop) ∧ w'.cell? ⟨D, 6, none⟩ = some (.slice d.ring.mA d.ring.ms.length d.ring.mC) ∧ w'.cell? ⟨D, 7, none⟩ = some (.slice d.ring.eA d.ring.eN d.ring.eC)) (by kernel_rfl) ?_ (fun hHeld => ?_)
            · (try dsimp only); (first | exact ⟨hD5.cell 1, hD5.cell 2, hD5.cell 3, hD5.cell 4, hD5.cell 5, hD5.cell 6, hD5.cell 7⟩ | exact ⟨hD6.cell 1, hD6.cell 2, hD6.cell 3, hD6.cell 4, hD6.cell 5, hD6.cell 6, hD6.cell 7⟩ | exact ⟨hD7.cell 1, hD7.cell 2, hD7.cell 3, hD7.cell 4, hD7.cell 5, hD7.cell 6, hD7.cell 7⟩)
            refine held_take 0 ?_ rfl (by kernel_rfl) (by kernel_rfl) (by kernel_rfl) (fun _ _ _ h => h) (by rfl) ?_ hHeld ?_
            rotate_left
            · (intro w hSw; (try dsimp only at hSw); go_simp; try with_reducible rfl)
            try simp only [Act.put, List.setIfInBounds_toArray, List.set_cons_zero, List.set_cons_succ]
            refine held_take 1 ?_ rfl (by kernel_rfl) (by kernel_rfl) (by kernel_rfl) (fun _ _ _ h => h) (by rfl) ?_ hHeld ?_
            rotate_left
            · (intro w hSw; (try dsimp only at hSw); go_simp; try with_reducible rfl)
            try simp only [Act.put, List.setIfInBounds_toArray, List.set_cons_zero, List.set_cons_succ]
            refine held_take 2 ?_ rfl (by kernel_rfl) (by kernel_rfl) (by kernel_rfl) (fun _ _ _ h => h) (by rfl) ?_ hHeld ?_
            rotate_left
            · (intro w hSw; (try dsimp only at hSw); go_simp; try with_reducible rfl)
            try simp only [Act.put, List.setIfInBounds_toArray, List.set_cons_zero, List.set_cons_succ]
            refine held_take 3 ?_ rfl (by kernel_rfl) (by kernel_rfl) (by kernel_rfl) (fun _ _ _ h => h) (by rfl) ?_ hHeld ?_
            rotate_left
            · (intro w hSw; (try dsimp only at hSw); go_simp; try with_reducible rfl)
            try simp only [Act.put, List.setIfInBounds_toArray, List.set_cons_zero, List.set_cons_succ]
            refine held_take 4 ?_ rfl (by kernel_rfl) (by kernel_rfl) (by kernel_rfl) (fun _ _ _ h => h) (by rfl) ?_ hHeld ?_
            rotate_left
            · (intro w hSw; (try dsimp only at hSw); go_simp; try with_reducible rfl)
            try simp only [Act.put, List.setIfInBounds_toArray, List.set_cons_zero, List.set_cons_succ]
            refine held_take 5 ?_ rfl (by kernel_rfl) (by kernel_rfl) (by kernel_rfl) (fun _ _ _ h => h) (by rfl) ?_ hHeld ?_
            rotate_left
            · (intro w hSw; (try dsimp only at hSw); go_simp; try with_reducible rfl)
            try simp only [Act.put, List.setIfInBounds_toArray, List.set_cons_zero, List.set_cons_succ]
            refine held_take 6 ?_ rfl (by kernel_rfl) (by kernel_rfl) (by kernel_rfl) (fun _ _ _ h => h) (by rfl) ?_ hHeld ?_
            rotate_left
            · (intro w hSw; (try dsimp only at hSw); go_simp; try with_reducible rfl)
            try simp only [Act.put, List.setIfInBounds_toArray, List.set_cons_zero, List.set_cons_succ]
            refine held_take 8 ?_ rfl (by kernel_rfl) (by kernel_rfl) (by kernel_rfl) (fun _ _ _ h => h) (by rfl) ?_ hHeld ?_
            rotate_left
            · (intro w hSw; (try dsimp only at hSw); go_simp; try with_reducible rfl)
            try simp only [Act.put, List.setIfInBounds_toArray, List.set_cons_zero, List.set_cons_succ]
            refine held_take 9 ?_ rfl (by kernel_rfl) (by kernel_rfl) (by kernel_rfl) (fun _ _ _ h => h) (by rfl) ?_ hHeld ?_
            rotate_left
            · (intro w hSw; (try dsimp only at hSw); go_simp; try with_reducible rfl)
            try simp only [Act.put, List.setIfInBounds_toArray, List.set_cons_zero, List.set_cons_succ]
            refine held_take 10 ?_ rfl (by kernel_rfl) (by kernel_rfl) (by kernel_rfl) (fun _ _ _ h => h) (by rfl) ?_ hHeld ?_
            rotate_left
            · (intro w hSw; (try dsimp only at hSw); go_simp; try with_reducible rfl)
            try simp only [Act.put, List.setIfInBounds_toArray, List.set_cons_zero, List.set_cons_succ]
            refine held_take 11 ?_ rfl (by kernel_rfl) (by kernel_rfl) (by kernel_rfl) (fun _ _ _ h => h) (by rfl) ?_ hHeld ?_
            rotate_left
            · (intro w hSw; (try dsimp only at hSw); go_simp; try with_reducible rfl)
            try simp only [Act.put, List.setIfInBounds_toArray, List.set_cons_zero, List.set_cons_succ]
            refine held_take 12 ?_ rfl (by kernel_rfl) (by kernel_rfl) (by kernel_rfl) (fun _ _ _ h => h) (by rfl) ?_ hHeld ?_
            rotate_left
            · (intro w hSw; (try dsimp only at hSw); go_simp; try with_reducible rfl)
            try simp only [Act.put, List.setIfInBounds_toArray, List.set_cons_zero, List.set_cons_succ]
            refine held_take 13 ?_ rfl (by kernel_rfl) (by kernel_rfl) (by kernel_rfl) (fun _ _ _ h => h) (by rfl) ?_ hHeld ?_
            rotate_left
            · (intro w hSw; (try dsimp only at hSw); go_simp; try with_reducible rfl)
            try simp only [Act.put, List.setIfInBounds_toArray, List.set_cons_zero, List.set_cons_succ]
            refine held_take 14 ?_ rfl (by kernel_rfl) (by kernel_rfl) (by kernel_rfl) (fun _ _ _ h => h) (by rfl) ?_ hHeld ?_
            rotate_left
            · (intro w hSw; (try dsimp only at hSw); go_simp; try with_reducible rfl)
            try simp only [Act.put, List.setIfInBounds_toArray, List.set_cons_zero, List.set_cons_succ]
            refine held_one 7 rfl (by kernel_rfl) (by rfl) (fun K hK => ?_)
            go_simp
            refine (would_any g d.car d.dst d.ring _ hG5 (hdm.eff (Eff.of_below (S := fun _ => False) hB5) (fun _ _ h => h)) (by omega)).mono ?_
            rintro e w6 ⟨rfl, hb6⟩
            have hD6 := (Eff.of_below (S := fun _ => False) hb6).blk hD5 (fun h => h)
            have hG6 := (Eff.of_below (S := fun _ => False) hb6).blk hG5 (fun h => h)
            have hX6 := (Eff.of_below (S := fun _ => False) hb6).blk hX5 (fun h => h)
            have hC6 := (Eff.of_below (S := fun _ => False) hb6).blk hC5 (fun h => h)
            have hB6 := hB5.trans (hb6.mono hB5.size)
            clear hB5 hb6 hD5 hG5 hX5 hC5
            refine hK.out _ _ ?_ (fun hHeld2 => ?_)
            · (try dsimp only); (first | exact ⟨hD5.cell 1, hD5.cell 2, hD5.cell 3, hD5.cell 4, hD5.cell 5, hD5.cell 6, hD5.cell 7⟩ | exact ⟨hD6.cell 1, hD6.cell 2, hD6.cell 3, hD6.cell 4, hD6.cell 5, hD6.cell 6, hD6.cell 7⟩ | exact ⟨hD7.cell 1, hD7.cell 2, hD7.cell 3, hD7.cell 4, hD7.cell 5, hD7.cell 6, hD7.cell 7⟩)
            clear hK K hHeld
            have hHeld := hHeld2
            clear hHeld2
            try simp only [Act.put, List.setIfInBounds_toArray, List.set_cons_zero, List.set_cons_succ]
            refine held_one 15 rfl (by kernel_rfl) (by rfl) (fun K hK => ?_)
            go_simp
            refine (refWould_any g d.car d.dst d.ring _ hX6 (hdm.eff (Eff.of_below (S := fun _ => False) hB6) (fun _ _ h => h)) (by omega)).mono ?_
            rintro e w7 ⟨rfl, hb7⟩
            have hD7 := (Eff.of_below (S := fun _ => False) hb7).blk hD6 (fun h => h)
            have hG7 := (Eff.of_below (S := fun _ => False) hb7).blk hG6 (fun h => h)
            have hX7 := (Eff.of_below (S := fun _ => False) hb7).blk hX6 (fun h => h)
            have hC7 := (Eff.of_below (S := fun _ => False) hb7).blk hC6 (fun h => h)
            have hB7 := hB6.trans (hb7.mono hB6.size)
            clear hB6 hb7 hD6 hG6 hX6 hC6
            refine hK.out _ _ ?_ (fun hHeld2 => ?_)
            · (try dsimp only); (first | exact ⟨hD5.cell 1, hD5.cell 2, hD5.cell 3, hD5.cell 4, hD5.cell 5, hD5.cell 6, hD5.cell 7⟩ | exact ⟨hD6.cell 1, hD6.cell 2, hD6.cell 3, hD6.cell 4, hD6.cell 5, hD6.cell 6, hD6.cell 7⟩ | exact ⟨hD7.cell 1, hD7.cell 2, hD7.cell 3, hD7.cell 4, hD7.cell 5, hD7.cell 6, hD7.cell 7⟩)
            clear hK K hHeld
            have hHeld := hHeld2
            clear hHeld2
            try simp only [Act.put, List.setIfInBounds_toArray, List.set_cons_zero, List.set_cons_succ]
            refine held_take 16 ?_ rfl (by kernel_rfl) (by kernel_rfl) (by kernel_rfl) (fun _ _ _ h => h) (by rfl) ?_ hHeld ?_
            rotate_left
            · (intro w hSw; (try dsimp only at hSw); go_simp; try with_reducible rfl)
            try simp only [Act.put, List.setIfInBounds_toArray, List.set_cons_zero, List.set_cons_succ]
            refine wpAnyH_done (by kernel_rfl) ?_ _
            clear hHeld
            clear hqq
            have d0 : w7.cell? ⟨D, 0, none⟩ = some (.int .i64 d.kind) := hD7.cell 0
            have d1 : w7.cell? ⟨D, 1, none⟩ = some (.int .i64 d.car) := hD7.cell 1
            have d2 : w7.cell? ⟨D, 2, none⟩ = some (.int .i64 d.dst) := hD7.cell 2
            have d3 : w7.cell? ⟨D, 3, none⟩ = some (.int .i64 d.ring.c) := hD7.cell 3
            have d4 : w7.cell? ⟨D, 4, none⟩ = some (.int .i64 d.ring.f) := hD7.cell 4
            have d5 : w7.cell? ⟨D, 5, none⟩ = some (.int .i64 d.ring.hop) := hD7.cell 5
            have d6 : w7.cell? ⟨D, 6, none⟩ = some (.slice d.ring.mA d.ring.ms.length d.ring.mC) := hD7.cell 6
            have d7 : w7.cell? ⟨D, 7, none⟩ = some (.slice d.ring.eA d.ring.eN d.ring.eC) := hD7.cell 7
            by_cases hk1 : d.kind = 1
            · go_wp2_with fail
              clear d0 d1 d2 d3 d4 d5 d6 d7
              refine (take_any g d.car d.dst d.ring _ hG7 (hdm.eff (Eff.of_below (S := fun _ => False) hB7) (fun _ _ h => h)) (by omega)).mono ?_
              rintro e w8 ⟨rfl, hG8, hE8⟩
              have hD8 := hE8.blk hD7 (by omega)
              have hX8 := hE8.blk hX7 (by omega)
              have hC8 := hE8.blk hC7 (by omega)
              have hB8 := hE8.below hB7 hB7.size (fun q hq => by omega)
              clear hB7 hE8 hD7 hG7 hX7 hC7
              have d0 : w8.cell? ⟨D, 0, none⟩ = some (.int .i64 d.kind) := hD8.cell 0
              have d1 : w8.cell? ⟨D, 1, none⟩ = some (.int .i64 d.car) := hD8.cell 1
              have d2 : w8.cell? ⟨D, 2, none⟩ = some (.int .i64 d.dst) := hD8.cell 2
              have d3 : w8.cell? ⟨D, 3, none⟩ = some (.int .i64 d.ring.c) := hD8.cell 3
              have d4 : w8.cell? ⟨D, 4, none⟩ = some (.int .i64 d.ring.f) := hD8.cell 4
              have d5 : w8.cell? ⟨D, 5, none⟩ = some (.int .i64 d.ring.hop) := hD8.cell 5
              have d6 : w8.cell? ⟨D, 6, none⟩ = some (.slice d.ring.mA d.ring.ms.length d.ring.mC) := hD8.cell 6
              have d7 : w8.cell? ⟨D, 7, none⟩ = some (.slice d.ring.eA d.ring.eN d.ring.eC) := hD8.cell 7
              go_wp2_with fail
              clear d0 d1 d2 d3 d4 d5 d6 d7
              refine (refTake_any g d.car d.dst d.ring _ hX8 (hdm.eff (Eff.of_below (S := fun _ => False) hB8) (fun _ _ h => h)) (by omega)).mono ?_
              rintro e w9 ⟨rfl, hX9, hE9⟩
              have hD9 := hE9.blk hD8 (by omega)
              have hG9 := hE9.blk hG8 (by omega)
              have hC9 := hE9.blk hC8 (by omega)
              have hB9 := hE9.below hB8 hB8.size (fun q hq => by omega)
              clear hB8 hE9 hD8 hG8 hX8 hC8
              have hp1 : (g.would d.car d.dst d.ring != g.would d.car d.dst d.ring) = false := by simp
              have hp2 : ((g.would d.car d.dst d.ring && !sameE g.c g.f d.ring.c d.ring.f) != (g.would d.car d.dst d.ring && !sameE g.c g.f d.ring.c d.ring.f)) = false := by simp
              generalize g.would d.car d.dst d.ring = p1 at *
              generalize (p1 && !sameE g.c g.f d.ring.c d.ring.f) = p2 at *
              go_wp2_with fail
              generalize g.take d.car d.dst d.ring = g2 at *
              replace hG9 := hG9.drew
              replace hX9 := hX9.drew
              replace hC9 := hC9.drew
              replace hB9 := hB9.drew
              have hq1 : (g2.hop != g2.hop) = false := by simp
              have hq2 : (g2.floor != g2.floor) = false := by simp
              have hq3 : (g.hop != g.hop) = false := by simp
              have hq4 : sameE g2.c g2.f g2.c g2.f = true := by simp [sameE]
              refine wp_region_held_drew (S := fun w' => w'.cell? ⟨G + 1, 0, none⟩ = some (.int .i64 g2.floor) ∧ w'.cell? ⟨G + 1, 1, none⟩ = some (.int .i64 g2.c) ∧ w'.cell? ⟨G + 1, 2, none⟩ = some (.int .i64 g2.f) ∧ w'.cell? ⟨G + 1, 3, none⟩ = some (.int .i64 g2.hop)) (by kernel_rfl) ?_ (fun hHeld => ?_)
              · (try dsimp only); (first | exact ⟨hX9.cell 0, hX9.cell 1, hX9.cell 2, hX9.cell 3⟩ | exact ⟨hX10.cell 0, hX10.cell 1, hX10.cell 2, hX10.cell 3⟩ | exact ⟨hX11.cell 0, hX11.cell 1, hX11.cell 2, hX11.cell 3⟩)
              refine held_take 0 ?_ rfl (by kernel_rfl) (by kernel_rfl) (by kernel_rfl) (fun _ _ _ h => h) (by rfl) ?_ hHeld ?_
              rotate_left
              · (intro w hSw; (try dsimp only at hSw); go_simp; try with_reducible rfl)
              try simp only [Act.put, List.setIfInBounds_toArray, List.set_cons_zero, List.set_cons_succ]
              refine held_take 2 ?_ rfl (by kernel_rfl) (by kernel_rfl) (by kernel_rfl) (fun _ _ _ h => h) (by rfl) ?_ hHeld ?_
              rotate_left
              · (intro w hSw; (try dsimp only at hSw); go_simp; try with_reducible rfl)
              try simp only [Act.put, List.setIfInBounds_toArray, List.set_cons_zero, List.set_cons_succ]
              refine held_take 3 ?_ rfl (by kernel_rfl) (by kernel_rfl) (by kernel_rfl) (fun _ _ _ h => h) (by rfl) ?_ hHeld ?_
              rotate_left
              · (intro w hSw; (try dsimp only at hSw); go_simp; try with_reducible rfl)
              try simp only [Act.put, List.setIfInBounds_toArray, List.set_cons_zero, List.set_cons_succ]
              refine held_take 4 ?_ rfl (by kernel_rfl) (by kernel_rfl) (by kernel_rfl) (fun _ _ _ h => h) (by rfl) ?_ hHeld ?_
              rotate_left
              · (intro w hSw; (try dsimp only at hSw); go_simp; try with_reducible rfl)
              try simp only [Act.put, List.setIfInBounds_toArray, List.set_cons_zero, List.set_cons_succ]
              refine held_take 5 ?_ rfl (by kernel_rfl) (by kernel_rfl) (by kernel_rfl) (fun _ _ _ h => h) (by rfl) ?_ hHeld ?_
              rotate_left
              · (intro w hSw; (try dsimp only at hSw); go_simp; try with_reducible rfl)
              try simp only [Act.put, List.setIfInBounds_toArray, List.set_cons_zero, List.set_cons_succ]
              refine held_one 1 rfl (by kernel_rfl) (by rfl) (fun K hK => ?_)
              go_simp
              refine (gateEpoch_any g2 _ hG9).mono ?_
              rintro e w10 ⟨rfl, hb10⟩
              have hG10 := (Eff.of_below (S := fun _ => False) hb10).blk hG9 (fun h => h)
              have hX10 := (Eff.of_below (S := fun _ => False) hb10).blk hX9 (fun h => h)
              have hC10 := (Eff.of_below (S := fun _ => False) hb10).blk hC9 (fun h => h)
              have hB10 := hB9.trans (hb10.mono hB9.size)
              clear hB9 hb10 hG9 hX9 hC9
              refine hK.out _ _ ?_ (fun hHeld2 => ?_)
              · (try dsimp only); (first | exact ⟨hX9.cell 0, hX9.cell 1, hX9.cell 2, hX9.cell 3⟩ | exact ⟨hX10.cell 0, hX10.cell 1, hX10.cell 2, hX10.cell 3⟩ | exact ⟨hX11.cell 0, hX11.cell 1, hX11.cell 2, hX11.cell 3⟩)
              clear hK K hHeld
              have hHeld := hHeld2
              clear hHeld2
              try simp only [Act.put, List.setIfInBounds_toArray, List.set_cons_zero, List.set_cons_succ]
              refine held_one 6 rfl (by kernel_rfl) (by rfl) (fun K hK => ?_)
              go_simp
              refine (sameEpoch_any g2.c g2.f g2.c g2.f _).mono ?_
              rintro e w11 ⟨rfl, hb11⟩
              rw [hq4]
              have hG11 := (Eff.of_below (S := fun _ => False) hb11).blk hG10 (fun h => h)
              have hX11 := (Eff.of_below (S := fun _ => False) hb11).blk hX10 (fun h => h)
              have hC11 := (Eff.of_below (S := fun _ => False) hb11).blk hC10 (fun h => h)
              have hB11 := hB10.trans (hb11.mono hB10.size)
              clear hB10 hb11 hG10 hX10 hC10
              refine hK.out _ _ ?_ (fun hHeld2 => ?_)
              · (try dsimp only); (first | exact ⟨hX9.cell 0, hX9.cell 1, hX9.cell 2, hX9.cell 3⟩ | exact ⟨hX10.cell 0, hX10.cell 1, hX10.cell 2, hX10.cell 3⟩ | exact ⟨hX11.cell 0, hX11.cell 1, hX11.cell 2, hX11.cell 3⟩)
              clear hK K hHeld
              have hHeld := hHeld2
              clear hHeld2
              try simp only [Act.put, List.setIfInBounds_toArray, List.set_cons_zero, List.set_cons_succ]
              refine held_take 7 ?_ rfl (by kernel_rfl) (by kernel_rfl) (by kernel_rfl) (fun _ _ _ h => h) (by rfl) ?_ hHeld ?_
              rotate_left
              · (intro w hSw; (try dsimp only at hSw); go_simp; try with_reducible rfl)
              try simp only [Act.put, List.setIfInBounds_toArray, List.set_cons_zero, List.set_cons_succ]
              refine held_take 8 ?_ rfl (by kernel_rfl) (by kernel_rfl) (by kernel_rfl) (fun _ _ _ h => h) (by rfl) ?_ hHeld ?_
              rotate_left
              · (intro w hSw; (try dsimp only at hSw); go_simp; try with_reducible rfl)
              try simp only [Act.put, List.setIfInBounds_toArray, List.set_cons_zero, List.set_cons_succ]
              refine held_take 9 ?_ rfl (by kernel_rfl) (by kernel_rfl) (by kernel_rfl) (fun _ _ _ h => h) (by rfl) ?_ hHeld ?_
              rotate_left
              · (intro w hSw; (try dsimp only at hSw); go_simp; try with_reducible rfl)
              try simp only [Act.put, List.setIfInBounds_toArray, List.set_cons_zero, List.set_cons_succ]
              refine held_take 11 ?_ rfl (by kernel_rfl) (by kernel_rfl) (by kernel_rfl) (fun _ _ _ h => h) (by rfl) ?_ hHeld ?_
              rotate_left
              · (intro w hSw; (try dsimp only at hSw); go_simp; try with_reducible rfl)
              try simp only [Act.put, List.setIfInBounds_toArray, List.set_cons_zero, List.set_cons_succ]
              refine held_take 12 ?_ rfl (by kernel_rfl) (by kernel_rfl) (by kernel_rfl) (fun _ _ _ h => h) (by rfl) ?_ hHeld ?_
              rotate_left
              · (intro w hSw; (try dsimp only at hSw); go_simp; try with_reducible rfl)
              try simp only [Act.put, List.setIfInBounds_toArray, List.set_cons_zero, List.set_cons_succ]
              refine held_take 13 ?_ rfl (by kernel_rfl) (by kernel_rfl) (by kernel_rfl) (fun _ _ _ h => h) (by rfl) ?_ hHeld ?_
              rotate_left
              · (intro w hSw; (try dsimp only at hSw); go_simp; try with_reducible rfl)
              try simp only [Act.put, List.setIfInBounds_toArray, List.set_cons_zero, List.set_cons_succ]
              refine held_take 14 ?_ rfl (by kernel_rfl) (by kernel_rfl) (by kernel_rfl) (fun _ _ _ h => h) (by rfl) ?_ hHeld ?_
              rotate_left
              · (intro w hSw; (try dsimp only at hSw); go_simp; try with_reducible rfl)
              try simp only [Act.put, List.setIfInBounds_toArray, List.set_cons_zero, List.set_cons_succ]
              refine held_one 10 rfl (by kernel_rfl) (by rfl) (fun K hK => ?_)
              go_simp
              refine (gateHop_any g2 _ hG11).mono ?_
              rintro e w' ⟨rfl, rfl⟩
              refine hK.out _ _ ?_ (fun hHeld2 => ?_)
              · (try dsimp only); (first | exact ⟨hX9.cell 0, hX9.cell 1, hX9.cell 2, hX9.cell 3⟩ | exact ⟨hX10.cell 0, hX10.cell 1, hX10.cell 2, hX10.cell 3⟩ | exact ⟨hX11.cell 0, hX11.cell 1, hX11.cell 2, hX11.cell 3⟩)
              clear hK K hHeld
              have hHeld := hHeld2
              clear hHeld2
              try simp only [Act.put, List.setIfInBounds_toArray, List.set_cons_zero, List.set_cons_succ]
              refine held_take 15 ?_ rfl (by kernel_rfl) (by kernel_rfl) (by kernel_rfl) (fun _ _ _ h => h) (by rfl) ?_ hHeld ?_
              rotate_left
              · (intro w hSw; (try dsimp only at hSw); go_simp; try with_reducible rfl)
              try simp only [Act.put, List.setIfInBounds_toArray, List.set_cons_zero, List.set_cons_succ]
              refine held_take 16 ?_ rfl (by kernel_rfl) (by kernel_rfl) (by kernel_rfl) (fun _ _ _ h => h) (by rfl) ?_ hHeld ?_
              rotate_left
              · (intro w hSw; (try dsimp only at hSw); go_simp; try with_reducible rfl)
              try simp only [Act.put, List.setIfInBounds_toArray, List.set_cons_zero, List.set_cons_succ]
              refine held_take 17 ?_ rfl (by kernel_rfl) (by kernel_rfl) (by kernel_rfl) (fun _ _ _ h => h) (by rfl) ?_ hHeld ?_
              rotate_left
              · (intro w hSw; (try dsimp only at hSw); go_simp; try with_reducible rfl)
              try simp only [Act.put, List.setIfInBounds_toArray, List.set_cons_zero, List.set_cons_succ]
              refine held_take 18 ?_ rfl (by kernel_rfl) (by kernel_rfl) (by kernel_rfl) (fun _ _ _ h => h) (by rfl) ?_ hHeld ?_
              rotate_left
              · (intro w hSw; (try dsimp only at hSw); go_simp; try with_reducible rfl)
              try simp only [Act.put, List.setIfInBounds_toArray, List.set_cons_zero, List.set_cons_succ]
              refine held_take 20 ?_ rfl (by kernel_rfl) (by kernel_rfl) (by kernel_rfl) (fun _ _ _ h => h) (by rfl) ?_ hHeld ?_
              rotate_left
              · (intro w hSw; (try dsimp only at hSw); go_simp; try with_reducible rfl)
              try simp only [Act.put, List.setIfInBounds_toArray, List.set_cons_zero, List.set_cons_succ]
              refine held_take 21 ?_ rfl (by kernel_rfl) (by kernel_rfl) (by kernel_rfl) (fun _ _ _ h => h) (by rfl) ?_ hHeld ?_
              rotate_left
              · (intro w hSw; (try dsimp only at hSw); go_simp; try with_reducible rfl)
              try simp only [Act.put, List.setIfInBounds_toArray, List.set_cons_zero, List.set_cons_succ]
              refine held_take 22 ?_ rfl (by kernel_rfl) (by kernel_rfl) (by kernel_rfl) (fun _ _ _ h => h) (by rfl) ?_ hHeld ?_
              rotate_left
              · (intro w hSw; (try dsimp only at hSw); go_simp; try with_reducible rfl)
              try simp only [Act.put, List.setIfInBounds_toArray, List.set_cons_zero, List.set_cons_succ]
              refine held_take 23 ?_ rfl (by kernel_rfl) (by kernel_rfl) (by kernel_rfl) (fun _ _ _ h => h) (by rfl) ?_ hHeld ?_
              rotate_left
              · (intro w hSw; (try dsimp only at hSw); go_simp; try with_reducible rfl)
              try simp only [Act.put, List.setIfInBounds_toArray, List.set_cons_zero, List.set_cons_succ]
              refine held_one 19 rfl (by kernel_rfl) (by rfl) (fun K hK => ?_)
              go_simp
              refine (gateFloor_any g2 _ hG11).mono ?_
              rintro e w' ⟨rfl, rfl⟩
              refine hK.out _ _ ?_ (fun hHeld2 => ?_)
              · (try dsimp only); (first | exact ⟨hX9.cell 0, hX9.cell 1, hX9.cell 2, hX9.cell 3⟩ | exact ⟨hX10.cell 0, hX10.cell 1, hX10.cell 2, hX10.cell 3⟩ | exact ⟨hX11.cell 0, hX11.cell 1, hX11.cell 2, hX11.cell 3⟩)
              clear hK K hHeld
              have hHeld := hHeld2
              clear hHeld2
              try simp only [Act.put, List.setIfInBounds_toArray, List.set_cons_zero, List.set_cons_succ]
              refine held_take 24 ?_ rfl (by kernel_rfl) (by kernel_rfl) (by kernel_rfl) (fun _ _ _ h => h) (by rfl) ?_ hHeld ?_
              rotate_left
              · (intro w hSw; (try dsimp only at hSw); go_simp; try with_reducible rfl)
              try simp only [Act.put, List.setIfInBounds_toArray, List.set_cons_zero, List.set_cons_succ]
              refine held_take 25 ?_ rfl (by kernel_rfl) (by kernel_rfl) (by kernel_rfl) (fun _ _ _ h => h) (by rfl) ?_ hHeld ?_
              rotate_left
              · (intro w hSw; (try dsimp only at hSw); go_simp; try with_reducible rfl)
              try simp only [Act.put, List.setIfInBounds_toArray, List.set_cons_zero, List.set_cons_succ]
              refine held_take 26 ?_ rfl (by kernel_rfl) (by kernel_rfl) (by kernel_rfl) (fun _ _ _ h => h) (by rfl) ?_ hHeld ?_
              rotate_left
              · (intro w hSw; (try dsimp only at hSw); go_simp; try with_reducible rfl)
              try simp only [Act.put, List.setIfInBounds_toArray, List.set_cons_zero, List.set_cons_succ]
              refine held_take 27 ?_ rfl (by kernel_rfl) (by kernel_rfl) (by kernel_rfl) (fun _ _ _ h => h) (by rfl) ?_ hHeld ?_
              rotate_left
              · (intro w hSw; (try dsimp only at hSw); go_simp; try with_reducible rfl)
              try simp only [Act.put, List.setIfInBounds_toArray, List.set_cons_zero, List.set_cons_succ]
              refine held_take 29 ?_ rfl (by kernel_rfl) (by kernel_rfl) (by kernel_rfl) (fun _ _ _ h => h) (by rfl) ?_ hHeld ?_
              rotate_left
              · (intro w hSw; (try dsimp only at hSw); go_simp; try with_reducible rfl)
              try simp only [Act.put, List.setIfInBounds_toArray, List.set_cons_zero, List.set_cons_succ]
              refine held_one 28 rfl (by kernel_rfl) (by rfl) (fun K hK => ?_)
              go_simp
              refine (gateHop_any g _ hC11).mono ?_
              rintro e w' ⟨rfl, rfl⟩
              refine hK.out _ _ ?_ (fun hHeld2 => ?_)
              · (try dsimp only); (first | exact ⟨hX9.cell 0, hX9.cell 1, hX9.cell 2, hX9.cell 3⟩ | exact ⟨hX10.cell 0, hX10.cell 1, hX10.cell 2, hX10.cell 3⟩ | exact ⟨hX11.cell 0, hX11.cell 1, hX11.cell 2, hX11.cell 3⟩)
              clear hK K hHeld
              have hHeld := hHeld2
              clear hHeld2
              try simp only [Act.put, List.setIfInBounds_toArray, List.set_cons_zero, List.set_cons_succ]
              refine held_take 30 ?_ rfl (by kernel_rfl) (by kernel_rfl) (by kernel_rfl) (fun _ _ _ h => h) (by rfl) ?_ hHeld ?_
              rotate_left
              · (intro w hSw; (try dsimp only at hSw); go_simp; try with_reducible rfl)
              try simp only [Act.put, List.setIfInBounds_toArray, List.set_cons_zero, List.set_cons_succ]
              refine held_take 31 ?_ rfl (by kernel_rfl) (by kernel_rfl) (by kernel_rfl) (fun _ _ _ h => h) (by rfl) ?_ hHeld ?_
              rotate_left
              · (intro w hSw; (try dsimp only at hSw); go_simp; try with_reducible rfl)
              try simp only [Act.put, List.setIfInBounds_toArray, List.set_cons_zero, List.set_cons_succ]
              refine wpAnyH_done (by kernel_rfl) ?_ _
              clear hHeld
              go_wp2
              go_roundw
              case rel => exact ⟨k + 1, g2, by omega, by go_num, hG11, hX11, hB11⟩
              case measure => simp [intOf]; omega
            · go_wp2_with fail
              clear d0 d1 d2 d3 d4 d5 d6 d7
              replace hD7 := hD7.drew
              replace hG7 := hG7.drew
              replace hX7 := hX7.drew
              replace hC7 := hC7.drew
              replace hB7 := hB7.drew
              have hp1 : (g.founds d.ring.c d.ring.f != g.founds d.ring.c d.ring.f) = false := by simp
              refine wp_region_held_drew (S := fun w' => w'.cell? ⟨D, 3, none⟩ = some (.int .i64 d.ring.c) ∧ w'.cell? ⟨D, 4, none⟩ = some (.int .i64 d.ring.f)) (by kernel_rfl) ?_ (fun hHeld => ?_)
              · (try dsimp only); (first | exact ⟨hD7.cell 3, hD7.cell 4⟩ | exact ⟨hD8.cell 3, hD8.cell 4⟩ | exact ⟨hD9.cell 3, hD9.cell 4⟩)
              refine held_take 0 ?_ rfl (by kernel_rfl) (by kernel_rfl) (by kernel_rfl) (fun _ _ _ h => h) (by rfl) ?_ hHeld ?_
              rotate_left
              · (intro w hSw; (try dsimp only at hSw); go_simp; try with_reducible rfl)
              try simp only [Act.put, List.setIfInBounds_toArray, List.set_cons_zero, List.set_cons_succ]
              refine held_take 1 ?_ rfl (by kernel_rfl) (by kernel_rfl) (by kernel_rfl) (fun _ _ _ h => h) (by rfl) ?_ hHeld ?_
              rotate_left
              · (intro w hSw; (try dsimp only at hSw); go_simp; try with_reducible rfl)
              try simp only [Act.put, List.setIfInBounds_toArray, List.set_cons_zero, List.set_cons_succ]
              refine held_take 2 ?_ rfl (by kernel_rfl) (by kernel_rfl) (by kernel_rfl) (fun _ _ _ h => h) (by rfl) ?_ hHeld ?_
              rotate_left
              · (intro w hSw; (try dsimp only at hSw); go_simp; try with_reducible rfl)
              try simp only [Act.put, List.setIfInBounds_toArray, List.set_cons_zero, List.set_cons_succ]
              refine held_take 3 ?_ rfl (by kernel_rfl) (by kernel_rfl) (by kernel_rfl) (fun _ _ _ h => h) (by rfl) ?_ hHeld ?_
              rotate_left
              · (intro w hSw; (try dsimp only at hSw); go_simp; try with_reducible rfl)
              try simp only [Act.put, List.setIfInBounds_toArray, List.set_cons_zero, List.set_cons_succ]
              refine held_take 5 ?_ rfl (by kernel_rfl) (by kernel_rfl) (by kernel_rfl) (fun _ _ _ h => h) (by rfl) ?_ hHeld ?_
              rotate_left
              · (intro w hSw; (try dsimp only at hSw); go_simp; try with_reducible rfl)
              try simp only [Act.put, List.setIfInBounds_toArray, List.set_cons_zero, List.set_cons_succ]
              refine held_take 6 ?_ rfl (by kernel_rfl) (by kernel_rfl) (by kernel_rfl) (fun _ _ _ h => h) (by rfl) ?_ hHeld ?_
              rotate_left
              · (intro w hSw; (try dsimp only at hSw); go_simp; try with_reducible rfl)
              try simp only [Act.put, List.setIfInBounds_toArray, List.set_cons_zero, List.set_cons_succ]
              refine held_take 7 ?_ rfl (by kernel_rfl) (by kernel_rfl) (by kernel_rfl) (fun _ _ _ h => h) (by rfl) ?_ hHeld ?_
              rotate_left
              · (intro w hSw; (try dsimp only at hSw); go_simp; try with_reducible rfl)
              try simp only [Act.put, List.setIfInBounds_toArray, List.set_cons_zero, List.set_cons_succ]
              refine held_take 8 ?_ rfl (by kernel_rfl) (by kernel_rfl) (by kernel_rfl) (fun _ _ _ h => h) (by rfl) ?_ hHeld ?_
              rotate_left
              · (intro w hSw; (try dsimp only at hSw); go_simp; try with_reducible rfl)
              try simp only [Act.put, List.setIfInBounds_toArray, List.set_cons_zero, List.set_cons_succ]
              refine held_one 4 rfl (by kernel_rfl) (by rfl) (fun K hK => ?_)
              go_simp
              refine (found_any g d.ring.c d.ring.f _ hG7).mono ?_
              rintro e w8 ⟨rfl, hG8, hE8⟩
              have hD8 := hE8.blk hD7 (by omega)
              have hX8 := hE8.blk hX7 (by omega)
              have hC8 := hE8.blk hC7 (by omega)
              have hB8 := hE8.below hB7 hB7.size (fun q hq => by omega)
              clear hB7 hE8 hD7 hG7 hX7 hC7
              refine hK.out _ _ ?_ (fun hHeld2 => ?_)
              · (try dsimp only); (first | exact ⟨hD7.cell 3, hD7.cell 4⟩ | exact ⟨hD8.cell 3, hD8.cell 4⟩ | exact ⟨hD9.cell 3, hD9.cell 4⟩)
              clear hK K hHeld
              have hHeld := hHeld2
              clear hHeld2
              try simp only [Act.put, List.setIfInBounds_toArray, List.set_cons_zero, List.set_cons_succ]
              refine held_one 9 rfl (by kernel_rfl) (by rfl) (fun K hK => ?_)
              go_simp
              refine (refFound_any g d.ring.c d.ring.f _ hX8).mono ?_
              rintro e w9 ⟨rfl, hX9, hE9⟩
              have hD9 := hE9.blk hD8 (by omega)
              have hG9 := hE9.blk hG8 (by omega)
              have hC9 := hE9.blk hC8 (by omega)
              have hB9 := hE9.below hB8 hB8.size (fun q hq => by omega)
              clear hB8 hE9 hD8 hG8 hX8 hC8
              refine hK.out _ _ ?_ (fun hHeld2 => ?_)
              · (try dsimp only); (first | exact ⟨hD7.cell 3, hD7.cell 4⟩ | exact ⟨hD8.cell 3, hD8.cell 4⟩ | exact ⟨hD9.cell 3, hD9.cell 4⟩)
              clear hK K hHeld
              have hHeld := hHeld2
              clear hHeld2
              try simp only [Act.put, List.setIfInBounds_toArray, List.set_cons_zero, List.set_cons_succ]
              refine held_take 10 ?_ rfl (by kernel_rfl) (by kernel_rfl) (by kernel_rfl) (fun _ _ _ h => h) (by rfl) ?_ hHeld ?_
              rotate_left
              · (intro w hSw; (try dsimp only at hSw); go_simp; try with_reducible rfl)
              try simp only [Act.put, List.setIfInBounds_toArray, List.set_cons_zero, List.set_cons_succ]
              refine wpAnyH_done (by kernel_rfl) ?_ _
              clear hHeld
              go_wp2_with fail
              generalize g.found d.ring.c d.ring.f = g2 at *
              replace hG9 := hG9.drew
              replace hX9 := hX9.drew
              replace hC9 := hC9.drew
              replace hB9 := hB9.drew
              have hq1 : (g2.hop != g2.hop) = false := by simp
              have hq2 : (g2.floor != g2.floor) = false := by simp
              have hq3 : (g.hop != g.hop) = false := by simp
              have hq4 : sameE g2.c g2.f g2.c g2.f = true := by simp [sameE]
              refine wp_region_held_drew (S := fun w' => w'.cell? ⟨G + 1, 0, none⟩ = some (.int .i64 g2.floor) ∧ w'.cell? ⟨G + 1, 1, none⟩ = some (.int .i64 g2.c) ∧ w'.cell? ⟨G + 1, 2, none⟩ = some (.int .i64 g2.f) ∧ w'.cell? ⟨G + 1, 3, none⟩ = some (.int .i64 g2.hop)) (by kernel_rfl) ?_ (fun hHeld => ?_)
              · (try dsimp only); (first | exact ⟨hX9.cell 0, hX9.cell 1, hX9.cell 2, hX9.cell 3⟩ | exact ⟨hX10.cell 0, hX10.cell 1, hX10.cell 2, hX10.cell 3⟩ | exact ⟨hX11.cell 0, hX11.cell 1, hX11.cell 2, hX11.cell 3⟩)
              refine held_take 0 ?_ rfl (by kernel_rfl) (by kernel_rfl) (by kernel_rfl) (fun _ _ _ h => h) (by rfl) ?_ hHeld ?_
              rotate_left
              · (intro w hSw; (try dsimp only at hSw); go_simp; try with_reducible rfl)
              try simp only [Act.put, List.setIfInBounds_toArray, List.set_cons_zero, List.set_cons_succ]
              refine held_take 2 ?_ rfl (by kernel_rfl) (by kernel_rfl) (by kernel_rfl) (fun _ _ _ h => h) (by rfl) ?_ hHeld ?_
              rotate_left
              · (intro w hSw; (try dsimp only at hSw); go_simp; try with_reducible rfl)
              try simp only [Act.put, List.setIfInBounds_toArray, List.set_cons_zero, List.set_cons_succ]
              refine held_take 3 ?_ rfl (by kernel_rfl) (by kernel_rfl) (by kernel_rfl) (fun _ _ _ h => h) (by rfl) ?_ hHeld ?_
              rotate_left
              · (intro w hSw; (try dsimp only at hSw); go_simp; try with_reducible rfl)
              try simp only [Act.put, List.setIfInBounds_toArray, List.set_cons_zero, List.set_cons_succ]
              refine held_take 4 ?_ rfl (by kernel_rfl) (by kernel_rfl) (by kernel_rfl) (fun _ _ _ h => h) (by rfl) ?_ hHeld ?_
              rotate_left
              · (intro w hSw; (try dsimp only at hSw); go_simp; try with_reducible rfl)
              try simp only [Act.put, List.setIfInBounds_toArray, List.set_cons_zero, List.set_cons_succ]
              refine held_take 5 ?_ rfl (by kernel_rfl) (by kernel_rfl) (by kernel_rfl) (fun _ _ _ h => h) (by rfl) ?_ hHeld ?_
              rotate_left
              · (intro w hSw; (try dsimp only at hSw); go_simp; try with_reducible rfl)
              try simp only [Act.put, List.setIfInBounds_toArray, List.set_cons_zero, List.set_cons_succ]
              refine held_one 1 rfl (by kernel_rfl) (by rfl) (fun K hK => ?_)
              go_simp
              refine (gateEpoch_any g2 _ hG9).mono ?_
              rintro e w10 ⟨rfl, hb10⟩
              have hG10 := (Eff.of_below (S := fun _ => False) hb10).blk hG9 (fun h => h)
              have hX10 := (Eff.of_below (S := fun _ => False) hb10).blk hX9 (fun h => h)
              have hC10 := (Eff.of_below (S := fun _ => False) hb10).blk hC9 (fun h => h)
              have hB10 := hB9.trans (hb10.mono hB9.size)
              clear hB9 hb10 hG9 hX9 hC9
              refine hK.out _ _ ?_ (fun hHeld2 => ?_)
              · (try dsimp only); (first | exact ⟨hX9.cell 0, hX9.cell 1, hX9.cell 2, hX9.cell 3⟩ | exact ⟨hX10.cell 0, hX10.cell 1, hX10.cell 2, hX10.cell 3⟩ | exact ⟨hX11.cell 0, hX11.cell 1, hX11.cell 2, hX11.cell 3⟩)
              clear hK K hHeld
              have hHeld := hHeld2
              clear hHeld2
              try simp only [Act.put, List.setIfInBounds_toArray, List.set_cons_zero, List.set_cons_succ]
              refine held_one 6 rfl (by kernel_rfl) (by rfl) (fun K hK => ?_)
              go_simp
              refine (sameEpoch_any g2.c g2.f g2.c g2.f _).mono ?_
              rintro e w11 ⟨rfl, hb11⟩
              rw [hq4]
              have hG11 := (Eff.of_below (S := fun _ => False) hb11).blk hG10 (fun h => h)
              have hX11 := (Eff.of_below (S := fun _ => False) hb11).blk hX10 (fun h => h)
              have hC11 := (Eff.of_below (S := fun _ => False) hb11).blk hC10 (fun h => h)
              have hB11 := hB10.trans (hb11.mono hB10.size)
              clear hB10 hb11 hG10 hX10 hC10
              refine hK.out _ _ ?_ (fun hHeld2 => ?_)
              · (try dsimp only); (first | exact ⟨hX9.cell 0, hX9.cell 1, hX9.cell 2, hX9.cell 3⟩ | exact ⟨hX10.cell 0, hX10.cell 1, hX10.cell 2, hX10.cell 3⟩ | exact ⟨hX11.cell 0, hX11.cell 1, hX11.cell 2, hX11.cell 3⟩)
              clear hK K hHeld
              have hHeld := hHeld2
              clear hHeld2
              try simp only [Act.put, List.setIfInBounds_toArray, List.set_cons_zero, List.set_cons_succ]
              refine held_take 7 ?_ rfl (by kernel_rfl) (by kernel_rfl) (by kernel_rfl) (fun _ _ _ h => h) (by rfl) ?_ hHeld ?_
              rotate_left
              · (intro w hSw; (try dsimp only at hSw); go_simp; try with_reducible rfl)
              try simp only [Act.put, List.setIfInBounds_toArray, List.set_cons_zero, List.set_cons_succ]
              refine held_take 8 ?_ rfl (by kernel_rfl) (by kernel_rfl) (by kernel_rfl) (fun _ _ _ h => h) (by rfl) ?_ hHeld ?_
              rotate_left
              · (intro w hSw; (try dsimp only at hSw); go_simp; try with_reducible rfl)
              try simp only [Act.put, List.setIfInBounds_toArray, List.set_cons_zero, List.set_cons_succ]
              refine held_take 9 ?_ rfl (by kernel_rfl) (by kernel_rfl) (by kernel_rfl) (fun _ _ _ h => h) (by rfl) ?_ hHeld ?_
              rotate_left
              · (intro w hSw; (try dsimp only at hSw); go_simp; try with_reducible rfl)
              try simp only [Act.put, List.setIfInBounds_toArray, List.set_cons_zero, List.set_cons_succ]
              refine held_take 11 ?_ rfl (by kernel_rfl) (by kernel_rfl) (by kernel_rfl) (fun _ _ _ h => h) (by rfl) ?_ hHeld ?_
              rotate_left
              · (intro w hSw; (try dsimp only at hSw); go_simp; try with_reducible rfl)
              try simp only [Act.put, List.setIfInBounds_toArray, List.set_cons_zero, List.set_cons_succ]
              refine held_take 12 ?_ rfl (by kernel_rfl) (by kernel_rfl) (by kernel_rfl) (fun _ _ _ h => h) (by rfl) ?_ hHeld ?_
              rotate_left
              · (intro w hSw; (try dsimp only at hSw); go_simp; try with_reducible rfl)
              try simp only [Act.put, List.setIfInBounds_toArray, List.set_cons_zero, List.set_cons_succ]
              refine held_take 13 ?_ rfl (by kernel_rfl) (by kernel_rfl) (by kernel_rfl) (fun _ _ _ h => h) (by rfl) ?_ hHeld ?_
              rotate_left
              · (intro w hSw; (try dsimp only at hSw); go_simp; try with_reducible rfl)
              try simp only [Act.put, List.setIfInBounds_toArray, List.set_cons_zero, List.set_cons_succ]
              refine held_take 14 ?_ rfl (by kernel_rfl) (by kernel_rfl) (by kernel_rfl) (fun _ _ _ h => h) (by rfl) ?_ hHeld ?_
              rotate_left
              · (intro w hSw; (try dsimp only at hSw); go_simp; try with_reducible rfl)
              try simp only [Act.put, List.setIfInBounds_toArray, List.set_cons_zero, List.set_cons_succ]
              refine held_one 10 rfl (by kernel_rfl) (by rfl) (fun K hK => ?_)
              go_simp
              refine (gateHop_any g2 _ hG11).mono ?_
              rintro e w' ⟨rfl, rfl⟩
              refine hK.out _ _ ?_ (fun hHeld2 => ?_)
              · (try dsimp only); (first | exact ⟨hX9.cell 0, hX9.cell 1, hX9.cell 2, hX9.cell 3⟩ | exact ⟨hX10.cell 0, hX10.cell 1, hX10.cell 2, hX10.cell 3⟩ | exact ⟨hX11.cell 0, hX11.cell 1, hX11.cell 2, hX11.cell 3⟩)
              clear hK K hHeld
              have hHeld := hHeld2
              clear hHeld2
              try simp only [Act.put, List.setIfInBounds_toArray, List.set_cons_zero, List.set_cons_succ]
              refine held_take 15 ?_ rfl (by kernel_rfl) (by kernel_rfl) (by kernel_rfl) (fun _ _ _ h => h) (by rfl) ?_ hHeld ?_
              rotate_left
              · (intro w hSw; (try dsimp only at hSw); go_simp; try with_reducible rfl)
              try simp only [Act.put, List.setIfInBounds_toArray, List.set_cons_zero, List.set_cons_succ]
              refine held_take 16 ?_ rfl (by kernel_rfl) (by kernel_rfl) (by kernel_rfl) (fun _ _ _ h => h) (by rfl) ?_ hHeld ?_
              rotate_left
              · (intro w hSw; (try dsimp only at hSw); go_simp; try with_reducible rfl)
              try simp only [Act.put, List.setIfInBounds_toArray, List.set_cons_zero, List.set_cons_succ]
              refine held_take 17 ?_ rfl (by kernel_rfl) (by kernel_rfl) (by kernel_rfl) (fun _ _ _ h => h) (by rfl) ?_ hHeld ?_
              rotate_left
              · (intro w hSw; (try dsimp only at hSw); go_simp; try with_reducible rfl)
              try simp only [Act.put, List.setIfInBounds_toArray, List.set_cons_zero, List.set_cons_succ]
              refine held_take 18 ?_ rfl (by kernel_rfl) (by kernel_rfl) (by kernel_rfl) (fun _ _ _ h => h) (by rfl) ?_ hHeld ?_
              rotate_left
              · (intro w hSw; (try dsimp only at hSw); go_simp; try with_reducible rfl)
              try simp only [Act.put, List.setIfInBounds_toArray, List.set_cons_zero, List.set_cons_succ]
              refine held_take 20 ?_ rfl (by kernel_rfl) (by kernel_rfl) (by kernel_rfl) (fun _ _ _ h => h) (by rfl) ?_ hHeld ?_
              rotate_left
              · (intro w hSw; (try dsimp only at hSw); go_simp; try with_reducible rfl)
              try simp only [Act.put, List.setIfInBounds_toArray, List.set_cons_zero, List.set_cons_succ]
              refine held_take 21 ?_ rfl (by kernel_rfl) (by kernel_rfl) (by kernel_rfl) (fun _ _ _ h => h) (by rfl) ?_ hHeld ?_
              rotate_left
              · (intro w hSw; (try dsimp only at hSw); go_simp; try with_reducible rfl)
              try simp only [Act.put, List.setIfInBounds_toArray, List.set_cons_zero, List.set_cons_succ]
              refine held_take 22 ?_ rfl (by kernel_rfl) (by kernel_rfl) (by kernel_rfl) (fun _ _ _ h => h) (by rfl) ?_ hHeld ?_
              rotate_left
              · (intro w hSw; (try dsimp only at hSw); go_simp; try with_reducible rfl)
              try simp only [Act.put, List.setIfInBounds_toArray, List.set_cons_zero, List.set_cons_succ]
              refine held_take 23 ?_ rfl (by kernel_rfl) (by kernel_rfl) (by kernel_rfl) (fun _ _ _ h => h) (by rfl) ?_ hHeld ?_
              rotate_left
              · (intro w hSw; (try dsimp only at hSw); go_simp; try with_reducible rfl)
              try simp only [Act.put, List.setIfInBounds_toArray, List.set_cons_zero, List.set_cons_succ]
              refine held_one 19 rfl (by kernel_rfl) (by rfl) (fun K hK => ?_)
              go_simp
              refine (gateFloor_any g2 _ hG11).mono ?_
              rintro e w' ⟨rfl, rfl⟩
              refine hK.out _ _ ?_ (fun hHeld2 => ?_)
              · (try dsimp only); (first | exact ⟨hX9.cell 0, hX9.cell 1, hX9.cell 2, hX9.cell 3⟩ | exact ⟨hX10.cell 0, hX10.cell 1, hX10.cell 2, hX10.cell 3⟩ | exact ⟨hX11.cell 0, hX11.cell 1, hX11.cell 2, hX11.cell 3⟩)
              clear hK K hHeld
              have hHeld := hHeld2
              clear hHeld2
              try simp only [Act.put, List.setIfInBounds_toArray, List.set_cons_zero, List.set_cons_succ]
              refine held_take 24 ?_ rfl (by kernel_rfl) (by kernel_rfl) (by kernel_rfl) (fun _ _ _ h => h) (by rfl) ?_ hHeld ?_
              rotate_left
              · (intro w hSw; (try dsimp only at hSw); go_simp; try with_reducible rfl)
              try simp only [Act.put, List.setIfInBounds_toArray, List.set_cons_zero, List.set_cons_succ]
              refine held_take 25 ?_ rfl (by kernel_rfl) (by kernel_rfl) (by kernel_rfl) (fun _ _ _ h => h) (by rfl) ?_ hHeld ?_
              rotate_left
              · (intro w hSw; (try dsimp only at hSw); go_simp; try with_reducible rfl)
              try simp only [Act.put, List.setIfInBounds_toArray, List.set_cons_zero, List.set_cons_succ]
              refine held_take 26 ?_ rfl (by kernel_rfl) (by kernel_rfl) (by kernel_rfl) (fun _ _ _ h => h) (by rfl) ?_ hHeld ?_
              rotate_left
              · (intro w hSw; (try dsimp only at hSw); go_simp; try with_reducible rfl)
              try simp only [Act.put, List.setIfInBounds_toArray, List.set_cons_zero, List.set_cons_succ]
              refine held_take 27 ?_ rfl (by kernel_rfl) (by kernel_rfl) (by kernel_rfl) (fun _ _ _ h => h) (by rfl) ?_ hHeld ?_
              rotate_left
              · (intro w hSw; (try dsimp only at hSw); go_simp; try with_reducible rfl)
              try simp only [Act.put, List.setIfInBounds_toArray, List.set_cons_zero, List.set_cons_succ]
              refine held_take 29 ?_ rfl (by kernel_rfl) (by kernel_rfl) (by kernel_rfl) (fun _ _ _ h => h) (by rfl) ?_ hHeld ?_
              rotate_left
              · (intro w hSw; (try dsimp only at hSw); go_simp; try with_reducible rfl)
              try simp only [Act.put, List.setIfInBounds_toArray, List.set_cons_zero, List.set_cons_succ]
              refine held_one 28 rfl (by kernel_rfl) (by rfl) (fun K hK => ?_)
              go_simp
              refine (gateHop_any g _ hC11).mono ?_
              rintro e w' ⟨rfl, rfl⟩
              refine hK.out _ _ ?_ (fun hHeld2 => ?_)
              · (try dsimp only); (first | exact ⟨hX9.cell 0, hX9.cell 1, hX9.cell 2, hX9.cell 3⟩ | exact ⟨hX10.cell 0, hX10.cell 1, hX10.cell 2, hX10.cell 3⟩ | exact ⟨hX11.cell 0, hX11.cell 1, hX11.cell 2, hX11.cell 3⟩)
              clear hK K hHeld
              have hHeld := hHeld2
              clear hHeld2
              try simp only [Act.put, List.setIfInBounds_toArray, List.set_cons_zero, List.set_cons_succ]
              refine held_take 30 ?_ rfl (by kernel_rfl) (by kernel_rfl) (by kernel_rfl) (fun _ _ _ h => h) (by rfl) ?_ hHeld ?_
              rotate_left
              · (intro w hSw; (try dsimp only at hSw); go_simp; try with_reducible rfl)
              try simp only [Act.put, List.setIfInBounds_toArray, List.set_cons_zero, List.set_cons_succ]
              refine held_take 31 ?_ rfl (by kernel_rfl) (by kernel_rfl) (by kernel_rfl) (fun _ _ _ h => h) (by rfl) ?_ hHeld ?_
              rotate_left
              · (intro w hSw; (try dsimp only at hSw); go_simp; try with_reducible rfl)
              try simp only [Act.put, List.setIfInBounds_toArray, List.set_cons_zero, List.set_cons_succ]
              refine wpAnyH_done (by kernel_rfl) ?_ _
              clear hHeld
              go_wp2
              go_roundw
              case rel => exact ⟨k + 1, g2, by omega, by go_num, hG11, hX11, hB11⟩
              case measure => simp [intOf]; omega
          · go_wp2
            go_ret
            exact ⟨rfl, hBl.alloc hBl.size _⟩
        · go_wp2
          go_ret
          exact ⟨rfl, hBl.alloc hBl.size _⟩
      · go_wp2
        go_ret
        exact ⟨rfl, hBl⟩
  · go_enter Try.func7, Try.ntmps7
    go_wp2_with fail
    refine (first_any _).mono ?_
    rintro e w1 ⟨rfl, hB1⟩
    go_wp2
    go_ret
    exact ⟨rfl, hB1⟩
end Go.Proofs.Ytioaapgpcpepmaa
