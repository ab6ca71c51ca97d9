/- A record that is kept: what Save does. -/
import Derived.Test.YtmfdpjijpbgjbaaDoorStorePut
import Derived.Test.YtmfdpjijpbgjbaaDoorRegions
namespace Go.Proofs.YtmfdpjijpbgjbaaDoor
open Go.RowKit
set_option linter.unusedSimpArgs false

/-- Bytes that are put one after the other, up to the first that fails. -/
def putsL (c : Cl) : List (Int × Int) → Cl × Int
  | [] => (c, 0)
  | (i, x) :: l => if c.putE i = 0 then putsL (c.put i x) l else (c.put i x, c.putE i)
def slotB (r : Int × Int) : List Int := [0] ++ b6 r.1 ++ b6 r.2
theorem slotB_len (r : Int × Int) : (slotB r).length = 13 := by simp [slotB, b6, b6k_len]
theorem slotB_b (r : Int × Int) : ∀ x ∈ slotB r, 0 ≤ x ∧ x ≤ 255 := fun x hx => by
  rcases List.mem_append.1 hx with hx | hx
  · rcases List.mem_append.1 hx with hx | hx
    · rw [List.mem_singleton] at hx; omega
    · exact b6_b _ x hx
  · exact b6_b _ x hx
def wrAt (k : Nat) (xs : List Int) : List (Int × Int) := (List.range xs.length).map fun j => (((k * 13 + j : Nat) : Int), xs.getD j 0)
theorem wrAt_len (k : Nat) (xs : List Int) : (wrAt k xs).length = xs.length := by simp [wrAt]
theorem wrAt_drop (k : Nat) {xs : List Int} {j : Nat} (hj : j < xs.length) : (wrAt k xs).drop j = (((k * 13 + j : Nat) : Int), xs.getD j 0) :: (wrAt k xs).drop (j + 1) := by
  rw [List.drop_eq_getElem_cons (by rw [wrAt_len]; exact hj)]
  simp [wrAt]
def saveL (k : Nat) (r : Int × Int) : List (Int × Int) := wrAt k (slotB r) ++ [(((k * 13 : Nat) : Int), 1)]
theorem saveL_drop (k : Nat) (r : Int × Int) {j : Nat} (hj : j < 13) : (saveL k r).drop j = (((k * 13 + j : Nat) : Int), (slotB r).getD j 0) :: (saveL k r).drop (j + 1) := by
  have hl : (wrAt k (slotB r)).length = 13 := by rw [wrAt_len, slotB_len]
  rw [saveL, List.drop_append_of_le_length (by omega), wrAt_drop k (by rw [slotB_len]; exact hj), List.cons_append, ← List.drop_append_of_le_length (by omega)]
theorem saveL_end (k : Nat) (r : Int × Int) : (saveL k r).drop 13 = [(((k * 13 : Nat) : Int), 1)] := by
  have hl : (wrAt k (slotB r)).length = 13 := by rw [wrAt_len, slotB_len]
  rw [saveL, List.drop_append_of_le_length (by omega), List.drop_of_length_le (by omega), List.nil_append]
/-- The slot that a record is put in. -/
def saveS (z : Int) : Nat := if z = 0 then 1 else 0
def save (c : Cl) (a : (Int × Int) × Int) (r : Int × Int) : Cl × ((Int × Int) × Int) × Int :=
  if badE a.1 r = 0 then
    ((putsL c (saveL (saveS a.2) r)).1, if (putsL c (saveL (saveS a.2) r)).2 = 0 then (r, (saveS a.2 : Int)) else a, (putsL c (saveL (saveS a.2) r)).2)
  else (c, a, badE a.1 r)

theorem row_lit (w : World) (x : Int) : (w.alloc (.cells #[.int .u8 x] 5)).ownsRow w.heap.size 5 1 (.slice (some ⟨w.heap.size, 0, none⟩) 1 1) [x].length ([x].map (Value.int .u8)) :=
  ⟨rfl, .inr ⟨w.heap.size, 1, #[.int .u8 x], rfl, Nat.le_refl _, heap_alloc_new w _, Nat.le_refl _, by unfold maxLen; omega, rfl, rfl⟩⟩

def At3 (b g s : Nat) (k : Nat) : Prop := k = b ∨ k = g ∨ k = s
def GivesSave (ad : Int → Addr) (w : World) (b g s : Nat) (q : Cl × ((Int × Int) × Int) × Int) (e : Ending) (w' : World) : Prop :=
  e = .returned (errV ad q.2.2) ∧ CellIs w' b g q.1 ∧ StoreIs w' s b q.2.1 ∧ Eff (At3 b g s) w w'
def SaveRel (w : World) (b g s : Nat) (c : Cl) (L : List (Int × Int)) (a : (Int × Int) × Int) (i : Value) (wr : World) : Prop :=
  ∃ j : Nat, j ≤ 13 ∧ i = .int .i64 j ∧ ∃ c', CellIs wr b g c' ∧ c'.ok ∧ 0 ≤ c'.writes ∧ c'.writes ≤ c.writes + j ∧ putsL c L = putsL c' (L.drop j) ∧ StoreIs wr s b a ∧ Eff (At2 b g) w wr
attribute [irreducible] SaveRel
set_option maxRecDepth 100000 in
set_option maxHeartbeats 2000000 in
theorem save_any {ad : Int → Addr} {b g s : Nat} {c : Cl} {a : (Int × Int) × Int} (r : Int × Int) (w0 w : World) (hE : Errs4 ad w0) (hB0 : Below w0.heap.size w0 w) (hb0 : w0.heap.size ≤ b) (hg0 : w0.heap.size ≤ g)
    (hc : CellIs w b g c) (hs : StoreIs w s b a) (hsb : s ≠ b) (hsg : s ≠ g) (hok : c.ok) (hw : 0 ≤ c.writes ∧ c.writes < 9223372036854775000) (ha : -1 ≤ a.2 ∧ a.2 ≤ 1) :
    Calls Tryd.prog 30 #[.pointer (some ⟨s, 0, none⟩), .agg #[.int .i64 r.1, .int .i64 r.2]] w (GivesSave ad w b g s (save c a r)) := by
  obtain ⟨⟨x, y⟩, z⟩ := a
  obtain ⟨p, q⟩ := r
  have hz : -1 ≤ z ∧ z ≤ 1 := ha
  clear ha
  have hlts := hs.lt
  have hltc := hc.lt
  have hb1 : Below w.heap.size w (w.alloc (.cells #[.int .i64 p, .int .i64 q] 59)) := (Below.refl _ _).alloc (Nat.le_refl _) _
  have hB1 := hB0.trans (hb1.mono hB0.size)
  have hs1 := (Eff.of_below (S := fun _ => False) hb1).blk hs (fun h => h)
  obtain ⟨w1, hw1⟩ : ∃ w1, w.alloc (.cells #[.int .i64 p, .int .i64 q] 59) = w1 := ⟨_, rfl⟩
  have HBX : Hid (Blk w1 w.heap.size [.int .i64 p, .int .i64 q] 59) := hw1 ▸ Blk.new w [.int .i64 p, .int .i64 q] 59
  rw [hw1] at hb1 hB1 hs1
  have hbad : Calls Tryd.prog 42 #[.pointer (some ⟨s, 0, none⟩), .agg #[.int .i64 p, .int .i64 q]] w1 (fun e w' => e = .returned (errV ad (badE (x, y) (p, q))) ∧ Below w1.heap.size w1 w') := bad_any (p, q) _ (hE.below hB1) hs1
  have c0 : w1.cell? ⟨w.heap.size, 0, none⟩ = some (.int .i64 p) := HBX.out.cell 0
  have c1 : w1.cell? ⟨w.heap.size, 1, none⟩ = some (.int .i64 q) := HBX.out.cell 1
  have hlt1 := HBX.out.lt
  by_cases hbe : badE (x, y) (p, q) = 0
  · have hsv : save c ((x, y), z) (p, q) = ((putsL c (saveL (saveS z) (p, q))).1, if (putsL c (saveL (saveS z) (p, q))).2 = 0 then ((p, q), (saveS z : Int)) else ((x, y), z), (putsL c (saveL (saveS z) (p, q))).2) := if_pos hbe
    obtain ⟨R, hR⟩ : ∃ R, save c ((x, y), z) (p, q) = R := ⟨_, rfl⟩
    rw [hR]
    have HR := hid (And.intro hR hsv)
    rw [hbe, errV_zero] at hbad
    clear hsv hbe hR
    go_enter Tryd.func30, Tryd.ntmps30
    go_wp2_with fail
    refine hbad.mono ?_
    rintro e w2 ⟨rfl, hb2⟩
    clear hbad
    have hB2 := hB1.trans (hb2.mono hB1.size)
    have hB12 := hb1.trans (hb2.mono hb1.size)
    have hs2 := (Eff.of_below (S := fun _ => False) hb2).blk hs1 (fun h => h)
    have hc2 := hc.below hB12
    have hT2 := (Eff.of_below (S := fun _ => False) hb2).blk HBX.out (fun h => h)
    have s3 : w2.cell? ⟨s, 3, none⟩ = some (.int .i64 z) := hs2.cell 3
    have HW2 := hid (And.intro hB2 (And.intro hB12 (And.intro hs2 (And.intro hc2 hT2))))
    clear hs1 hs hc HBX c0 c1 hlt1 hb1 hB1 hw1 hb2 hs2 hc2 hT2 hB2 hB12
    go_upto_if 27 with (fail)
    go_cut [6] (fun v wx => v = .int .i64 (saveS z : Nat) ∧ wx = w2)
    case first =>
      by_cases h0 : z < 0
      · have hzz : ((saveS z : Nat) : Int) = 0 := by unfold saveS; rw [if_neg (by omega)]; rfl
        have HZ := hid hzz
        clear hzz
        go_wp2_with fail
        go_meet
        exact ⟨by rw [HZ.out], rfl⟩
      · have hzz : ((saveS z : Nat) : Int) = 1 - z := by
          unfold saveS
          by_cases h1 : z = 0
          · rw [if_pos h1, h1]; rfl
          · rw [if_neg h1]; omega
        have HZ := hid hzz
        clear hzz
        go_wp2_with fail
        go_meet
        exact ⟨by rw [HZ.out], rfl⟩
    case rest =>
      obtain ⟨rfl, hwx⟩ := hcut
      obtain rfl : w2 = _ := hwx.symm
      go_wp2_with fail
      have x0 : (_root_.Go.World.drew w2).cell? ⟨w.heap.size, 0, none⟩ = some (.int .i64 p) := HW2.out.2.2.2.2.cell 0
      have x1 : (_root_.Go.World.drew w2).cell? ⟨w.heap.size, 1, none⟩ = some (.int .i64 q) := HW2.out.2.2.2.2.cell 1
      have hl : w.heap.size < (_root_.Go.World.drew w2).heap.size := HW2.out.2.2.2.2.lt
      refine wp_region_held_drew (S := fun w' => w'.cell? ⟨w.heap.size, 0, none⟩ = some (.int .i64 p) ∧ w'.cell? ⟨w.heap.size, 1, none⟩ = some (.int .i64 q)) (by kernel_rfl) ?_ (fun hHeld => ?_)
      · (try dsimp only); (first | exact ⟨x0, x1⟩ | exact ⟨(World.cell?_alloc_lt _ _ _ hl).trans x0, (World.cell?_alloc_lt _ _ _ hl).trans x1⟩ | exact ⟨y0, y1⟩ | exact ⟨(hb4.cell (p := ⟨w.heap.size, 0, none⟩) hl).trans y0, (hb4.cell (p := ⟨w.heap.size, 1, none⟩) hl).trans y1⟩)
      refine held_take 1 ?_ rfl (by kernel_rfl) (by kernel_rfl) (by kernel_rfl) (fun _ _ _ h => h) (by rfl) ?_ hHeld ?_
      rotate_left
      · (intro w hSw; (try dsimp only at hSw); go_simp; try with_reducible rfl)
      try simp only [Act.put, List.setIfInBounds_toArray, List.set_cons_zero, List.set_cons_succ]
      refine held_take 2 ?_ rfl (by kernel_rfl) (by kernel_rfl) (by kernel_rfl) (fun _ _ _ h => h) (by rfl) ?_ hHeld ?_
      rotate_left
      · (intro w hSw; (try dsimp only at hSw); go_simp; try with_reducible rfl)
      try simp only [Act.put, List.setIfInBounds_toArray, List.set_cons_zero, List.set_cons_succ]
      refine held_take 4 ?_ rfl (by kernel_rfl) (by kernel_rfl) (by kernel_rfl) (fun _ _ _ h => h) (by rfl) ?_ hHeld ?_
      rotate_left
      · (intro w hSw; (try dsimp only at hSw); go_simp; try with_reducible rfl)
      try simp only [Act.put, List.setIfInBounds_toArray, List.set_cons_zero, List.set_cons_succ]
      refine held_take 5 ?_ rfl (by kernel_rfl) (by kernel_rfl) (by kernel_rfl) (fun _ _ _ h => h) (by rfl) ?_ hHeld ?_
      rotate_left
      · (intro w hSw; (try dsimp only at hSw); go_simp; try with_reducible rfl)
      try simp only [Act.put, List.setIfInBounds_toArray, List.set_cons_zero, List.set_cons_succ]
      refine held_one 0 rfl (by kernel_rfl) (by rfl) (fun K hK => ?_)
      go_simp
      have h00 := hl
      refine hK.out _ _ ?_ (fun hHeld2 => ?_)
      · (try dsimp only); (first | exact ⟨x0, x1⟩ | exact ⟨(World.cell?_alloc_lt _ _ _ hl).trans x0, (World.cell?_alloc_lt _ _ _ hl).trans x1⟩ | exact ⟨y0, y1⟩ | exact ⟨(hb4.cell (p := ⟨w.heap.size, 0, none⟩) hl).trans y0, (hb4.cell (p := ⟨w.heap.size, 1, none⟩) hl).trans y1⟩)
      clear hK K hHeld
      have hHeld := hHeld2
      clear hHeld2
      try simp only [Act.put, List.setIfInBounds_toArray, List.set_cons_zero, List.set_cons_succ]
      refine held_one 3 rfl (by kernel_rfl) (by rfl) (fun K hK => ?_)
      go_simp
      refine (put6_any p _ [0] (_root_.Go.World.drew w2).heap.size _ (row_lit (_root_.Go.World.drew w2) 0) (by simp) (by simp)).mono ?_
      rintro e w3 ⟨v3, rfl, hown3, hb3⟩
      have y0 := (hb3.cell (p := ⟨w.heap.size, 0, none⟩) hl).trans ((World.cell?_alloc_lt _ _ _ hl).trans x0)
      have y1 := (hb3.cell (p := ⟨w.heap.size, 1, none⟩) hl).trans ((World.cell?_alloc_lt _ _ _ hl).trans x1)
      have hB3 : Below (_root_.Go.World.drew w2).heap.size (_root_.Go.World.drew w2) w3 := ((Below.refl _ _).alloc (Nat.le_refl _) _).trans hb3
      refine hK.out _ _ ?_ (fun hHeld2 => ?_)
      · (try dsimp only); (first | exact ⟨x0, x1⟩ | exact ⟨(World.cell?_alloc_lt _ _ _ hl).trans x0, (World.cell?_alloc_lt _ _ _ hl).trans x1⟩ | exact ⟨y0, y1⟩ | exact ⟨(hb4.cell (p := ⟨w.heap.size, 0, none⟩) hl).trans y0, (hb4.cell (p := ⟨w.heap.size, 1, none⟩) hl).trans y1⟩)
      clear hK K hHeld
      have hHeld := hHeld2
      clear hHeld2
      try simp only [Act.put, List.setIfInBounds_toArray, List.set_cons_zero, List.set_cons_succ]
      refine held_one 6 rfl (by kernel_rfl) (by rfl) (fun K hK => ?_)
      go_simp
      refine (put6_any q v3 ([0] ++ b6 p) (_root_.Go.World.drew w2).heap.size w3 hown3 hB3.size (by simp [b6, b6k_len])).mono ?_
      rintro e w4 ⟨v4, rfl, hown4, hb4⟩
      refine hK.out _ _ ?_ (fun hHeld2 => ?_)
      · (try dsimp only); (first | exact ⟨x0, x1⟩ | exact ⟨(World.cell?_alloc_lt _ _ _ hl).trans x0, (World.cell?_alloc_lt _ _ _ hl).trans x1⟩ | exact ⟨y0, y1⟩ | exact ⟨(hb4.cell (p := ⟨w.heap.size, 0, none⟩) hl).trans y0, (hb4.cell (p := ⟨w.heap.size, 1, none⟩) hl).trans y1⟩)
      clear hK K hHeld
      have hHeld := hHeld2
      clear hHeld2
      try simp only [Act.put, List.setIfInBounds_toArray, List.set_cons_zero, List.set_cons_succ]
      refine held_take 7 ?_ rfl (by kernel_rfl) (by kernel_rfl) (by kernel_rfl) (fun _ _ _ h => h) (by rfl) ?_ hHeld ?_
      rotate_left
      · (intro w hSw; (try dsimp only at hSw); go_simp; try with_reducible rfl)
      try simp only [Act.put, List.setIfInBounds_toArray, List.set_cons_zero, List.set_cons_succ]
      refine wpAnyH_done (by kernel_rfl) ?_ _
      clear hHeld
      obtain ⟨hB2, hB12, hs2, hc2, hT2⟩ := HW2.out
      have hB24 : Below w2.heap.size w2 w4 := (Below.refl w2.heap.size w2).drew.trans (hB3.trans hb4)
      have hlo := hown4.lt
      have hlen : ([0] ++ b6 p ++ b6 q).length = 13 := slotB_len (p, q)
      have hown5 : w4.ownsRow w2.heap.size 5 1 v4 13 ((slotB (p, q)).map (Value.int .u8)) := by
        have h := hown4
        rw [hlen] at h
        exact h
      obtain ⟨A4, c4, rfl, _, _, hr4⟩ := Sl.row hown5
      obtain ⟨b4, o4, rfl, hbw4, _⟩ := hr4.at (by rw [List.length_map, slotB_len]; omega)
      have hb4lo : w2.heap.size ≤ b4 := (hlo b4 rfl).1
      have hB4 := hB2.trans (hB24.mono hB2.size)
      have hs4 := (Eff.of_below (S := fun _ => False) hB24).blk hs2 (fun h => h)
      have hc4 := hc2.below hB24
      have hT4 := (Eff.of_below (S := fun _ => False) hB24).blk hT2 (fun h => h)
      have hB14 : Below w.heap.size w w4 := hB12.trans (hB24.mono hB12.size)
      have hw2 := hB12.size
      have HQ := hid (And.intro hB14 (And.intro hT4 hr4))
      have HK : Hid (saveS z ≤ 1) := by unfold saveS; rw [Hid]; split <;> omega
      clear hown4 hown5 hr4 HW2 hB2 hB12 hs2 hc2 hT2 hB24 hlo hb4 hB3 hb3 hown3 x0 x1 y0 y1 hl s3 hB14 hT4
      generalize saveS z = k at *
      go_wp2_with fail
      go_loopw [37] (fun i wr => SaveRel w4 b g s c (saveL k (p, q)) ((x, y), z) i wr) (fun i _ => 13 - (intOf i).toNat)
      case atStart => unfold SaveRel; exact ⟨0, by omega, rfl, c, hc4, hok, hw.1, by omega, rfl, hs4, Eff.refl _ _⟩
      case round =>
        clear hc4 hs4
        unfold SaveRel at hrel
        obtain ⟨j, hj, rfl, c', hc, hok', hw0', hw1', hput, hs, he⟩ := hrel
        have hBr := he.below hB4 hB4.size (fun i hi h => by rcases h with rfl | rfl <;> omega)
        have hp0 : wr.cell? ⟨s, 0, none⟩ = some (.pointer (some ⟨b, 0, none⟩)) := hs.cell 0
        by_cases hlt : j < 13
        · have hr := HQ.out.2.2.eff he (fun a ha h => by cases ha; rcases h with h | h <;> (simp only at h; omega))
          obtain ⟨_, _, heq, _, hcx⟩ := hr.at (by rw [List.length_map, slotB_len]; omega)
          cases heq
          obtain ⟨v, hv⟩ : ∃ v, (slotB (p, q)).getD j 0 = v := ⟨_, rfl⟩
          have hcell : wr.cell? ⟨b4, o4 + j, none⟩ = some (.int .u8 v) := by
            rw [hcx j (by rw [List.length_map, slotB_len]; exact hlt), ← hv]
            simp [List.getD_eq_getElem?_getD, List.getElem?_eq_getElem (show j < (slotB (p, q)).length by rw [slotB_len]; exact hlt)]
          have hvb : 0 ≤ v ∧ v ≤ 255 := by
            rw [← hv, List.getD_eq_getElem?_getD, List.getElem?_eq_getElem (show j < (slotB (p, q)).length by rw [slotB_len]; exact hlt)]
            exact slotB_b _ _ (List.getElem_mem _)
          have hdr := saveL_drop k (p, q) hlt
          rw [hv] at hdr
          have hpa := put_any ((k * 13 + j : Nat) : Int) v wr (hE.below hBr) hc hok' ⟨hw0', by omega⟩
          rw [show ((k * 13 + j : Nat) : Int) = (k : Int) * 13 + j from by omega] at hpa hdr
          have hk13 := HK.out
          rw [hdr] at hput
          have HP := hid (And.intro hput (And.intro hs (And.intro he (And.intro hok' (And.intro hvb hBr)))))
          clear hput hs hcx hr hdr hv hc
          obtain ⟨E, hE1⟩ : ∃ E, c'.putE ((k : Int) * 13 + j) = E := ⟨_, rfl⟩
          rw [hE1] at hpa
          by_cases h0 : E = 0
          · subst h0
            rw [errV_zero] at hpa
            go_wp2_with fail
            refine hpa.mono ?_
            rintro e w5 ⟨rfl, hc5, he5⟩
            clear hpa
            go_wp2_with fail
            go_roundw
            case rel =>
              unfold SaveRel
              refine ⟨j + 1, by omega, by go_num, c'.put ((k : Int) * 13 + j) v, hc5, Cl.put_ok HP.out.2.2.2.1 _ _ HP.out.2.2.2.2.1, ?_, ?_, ?_, ?_, ?_⟩
              · rw [Cl.put_writes, hE1, if_pos rfl]; omega
              · rw [Cl.put_writes, hE1, if_pos rfl]; omega
              · rw [HP.out.1, putsL, if_pos hE1]
              · exact he5.blk HP.out.2.1 (fun h => by rcases h with h | h <;> omega)
              · exact HP.out.2.2.1.trans he5
            case measure => simp [intOf]; omega
          · have hRR : R = (c'.put ((k : Int) * 13 + j) v, ((x, y), z), E) := by
              rw [← HR.out.1, HR.out.2, HP.out.1, putsL, if_neg (by rw [hE1]; exact h0)]
              simp only [hE1, if_neg h0]
            rw [errV_ne ad h0] at hpa
            have HV := hid (errV_ne ad h0)
            have HRR := hid hRR
            clear hRR
            go_wp2_with fail
            refine hpa.mono ?_
            rintro e w5 ⟨rfl, hc5, he5⟩
            clear hpa
            go_wp2_with fail
            go_ret
            rw [HRR.out]
            exact ⟨congrArg _ HV.out.symm, hc5, he5.blk HP.out.2.1 (fun h => by rcases h with h | h <;> omega), (Eff.of_below HQ.out.1).step (HP.out.2.2.1.trans he5) (fun i _ h => by rcases h with h | h <;> simp [At3, h])⟩
        · obtain rfl : j = 13 := by omega
          have hpa := put_any ((k * 13 : Nat) : Int) 1 wr (hE.below hBr) hc hok' ⟨hw0', by omega⟩
          rw [saveL_end] at hput
          rw [show ((k * 13 : Nat) : Int) = (k : Int) * 13 from by omega] at hpa hput
          have hk13 := HK.out
          have hTr := he.blk HQ.out.2.1 (fun h => by rcases h with h | h <;> omega)
          have HP := hid (And.intro hput (And.intro hs (And.intro he hTr)))
          clear hput hs hc hTr
          obtain ⟨E, hE1⟩ : ∃ E, c'.putE ((k : Int) * 13) = E := ⟨_, rfl⟩
          rw [hE1] at hpa
          by_cases h0 : E = 0
          · subst h0
            have hRR : R = (c'.put ((k : Int) * 13) 1, ((p, q), (k : Int)), 0) := by
              rw [← HR.out.1, HR.out.2, HP.out.1, putsL, if_pos hE1, putsL]
              simp
            rw [errV_zero] at hpa
            have HRR := hid hRR
            clear hRR
            go_wp2_with fail
            refine hpa.mono ?_
            rintro e w5 ⟨rfl, hc5, he5⟩
            clear hpa
            have hT5 := he5.blk HP.out.2.2.2 (fun h => by rcases h with h | h <;> omega)
            have hs5 := he5.blk HP.out.2.1 (fun h => by rcases h with h | h <;> omega)
            have t0 : w5.cell? ⟨w.heap.size, 0, none⟩ = some (.int .i64 p) := hT5.cell 0
            have t1 : w5.cell? ⟨w.heap.size, 1, none⟩ = some (.int .i64 q) := hT5.cell 1
            have f1 : w5.cell? ⟨s, 1, none⟩ = some (.int .i64 x) := hs5.cell 1
            have f2 : w5.cell? ⟨s, 2, none⟩ = some (.int .i64 y) := hs5.cell 2
            have f3 : w5.cell? ⟨s, 3, none⟩ = some (.int .i64 z) := hs5.cell 3
            have hf : ∀ o, w5.frozen? ⟨s, o, none⟩ = false := hs5.frozen
            have hs6 := ((hs5.set 1 (.int .i64 p)).set 2 (.int .i64 q)).set 3 (.int .i64 k)
            have he6 : Eff (At3 b g s) w w5 := (Eff.of_below HQ.out.1).step (HP.out.2.2.1.trans he5) (fun i _ h => by rcases h with h | h <;> simp [At3, h])
            have he7 := ((he6.setCell (p := ⟨s, 1, none⟩) (fun _ => .inr (.inr rfl)) (.int .i64 p)).setCell (p := ⟨s, 2, none⟩) (fun _ => .inr (.inr rfl)) (.int .i64 q)).setCell (p := ⟨s, 3, none⟩) (fun _ => .inr (.inr rfl)) (.int .i64 k)
            have hc6 := hc5.eff ((((Eff.one s w5).set 1 (.int .i64 p)).set 2 (.int .i64 q)).set 3 (.int .i64 k)) (fun h => hsb h.symm) (fun h => hsg h.symm)
            have HF := hid (And.intro hc6 (And.intro hs6 he7))
            clear hT5 hs5 hs6 he6 he7 hc6 hc5 he5
            go_wp2_with fail
            go_ret
            rw [HRR.out]
            exact ⟨rfl, HF.out.1, HF.out.2.1, HF.out.2.2⟩
          · have hRR : R = (c'.put ((k : Int) * 13) 1, ((x, y), z), E) := by
              rw [← HR.out.1, HR.out.2, HP.out.1, putsL, if_neg (by rw [hE1]; exact h0)]
              simp only [hE1, if_neg h0]
            rw [errV_ne ad h0] at hpa
            have HV := hid (errV_ne ad h0)
            have HRR := hid hRR
            clear hRR
            go_wp2_with fail
            refine hpa.mono ?_
            rintro e w5 ⟨rfl, hc5, he5⟩
            clear hpa
            go_wp2_with fail
            go_ret
            rw [HRR.out]
            exact ⟨congrArg _ HV.out.symm, hc5, he5.blk HP.out.2.1 (fun h => by rcases h with h | h <;> omega), (Eff.of_below HQ.out.1).step (HP.out.2.2.1.trans he5) (fun i _ h => by rcases h with h | h <;> simp [At3, h])⟩
  · have hsv : save c ((x, y), z) (p, q) = (c, ((x, y), z), badE (x, y) (p, q)) := if_neg hbe
    rw [hsv]
    rw [errV_ne ad hbe] at hbad
    have hV := errV_ne ad hbe
    have HH := hid (And.intro hc hs)
    clear hs1 hs hc hsv
    go_enter Tryd.func30, Tryd.ntmps30
    go_wp2_with fail
    refine hbad.mono ?_
    rintro e w2 ⟨rfl, hb2⟩
    clear hbad
    have hb3 := hb1.trans (hb2.mono hb1.size)
    go_wp2_with fail
    go_ret
    exact ⟨congrArg _ hV.symm, HH.out.1.below hb3, (Eff.of_below (S := fun _ => False) hb3).blk HH.out.2 (fun h => h), Eff.of_below hb3⟩
end Go.Proofs.YtmfdpjijpbgjbaaDoor
